/- The walk's evaluator and its laws (over whatever program), and contracts of the program's functions. -/
import Derived.Test.YtmmioohcgdnpdaaDoorAe2
import Derived.Test.YtmmioohcgdnpdaaDoorProg
import Derived.KernelRfl
import Derived.WalkKit
import Derived.Lib.Walk
import Derived.Lib.SliceRun
import Derived.Lib.AppendZerosOnto
import Derived.Laws.Externs
import Derived.LaidEql
import Derived.Stop.Asserts
import Derived.RowKitTokens
import Derived.Laws.BitsLemmas
set_option linter.all false
namespace Go.AE
open Go.RowKit
variable {C:Cx} {o:Oper} {a:Act} {g:Gh} {v:AV} {st:St} {gs gt:List (Nat×Bool)} {pres:List Prop} {b0:Nat} {w0:World}
def isFz (objs:List (Nat×Ob)) (id:Nat):Bool:=match lookup objs id with
 | some ⟨false,_,.row _⟩=>true
 | _=>false
theorem freeze1_fz {objs:List (Nat×Ob)} {id:Nat} (h:isFz objs id = true) (j:Nat):lookup (St.freeze1 objs id) j = lookup objs j:=by
 unfold isFz at h
 split at h
 ·rename_i ver u hlk
  unfold St.freeze1
  rw [hlk]
  simp only
  by_cases hj:j = id
  ·subst hj; rw [lookup_update_same,hlk]
  ·rw [lookup_update_other _ _ _ _ hj]
 ·cases h
theorem freezeAll_fz:∀ (ids:List Nat) {objs:List (Nat×Ob)},(∀ id,id ∈ ids→isFz objs id = true)→∀ j,lookup (St.freezeAll objs ids) j = lookup objs j
 | [],_,_,_=>rfl
 | i :: r,objs,h,j=>by
  have h1:=freeze1_fz (h i (List.mem_cons_self ..))
  simp only [St.freezeAll]
  rw [freezeAll_fz r (fun id hid=>by
   have:=h id (List.mem_cons_of_mem _ hid)
   unfold isFz at this ⊢
   rw [h1]; exact this) j,h1]
theorem lookup_mem:∀ {objs:List (Nat×Ob)} {id:Nat} {ob:Ob},lookup objs id = some ob→id ∈ objs.map (·.1)
 | [],_,_,h=>by simp [lookup] at h
 | (i,o) :: r,id,ob,h=>by
  simp only [lookup] at h
  cases hb:Nat.beq i id with
  | true=>have:=nbeq hb; subst this; simp
  | false =>
   rw [hb,cond_false] at h
   simp only [List.map_cons,List.mem_cons]
   exact .inr (lookup_mem h)
theorem settle_mem {G:Nat→Option (List AV)} {objs:List (Nat×Ob)} {next:Nat} (hM:Mem G b0 w0 objs next g):∃ objs' g',Mem G b0 w0 objs' next g'∧Ext g g'∧Stays g g'∧g'.w = g.w∧g'.base = g.base∧(∀ id,lookup objs' id = lookup objs id) ∧
  ∀ id ver u,lookup objs id = some ⟨false,ver,.row u⟩→∀ b,blk (g'.ρ id) = some b→¬ g'.own b∨∃ A,g'.ρ id = .slice A 0 0:=by
 obtain ⟨g',f,n⟩:=freezeAll_sound ((objs.map (·.1)).filter (isFz objs)) hM
 refine ⟨_,g',f.mem,f.ext,f.stays,f.w,f.base,freezeAll_fz _ (fun id hid=>(List.mem_filter.1 hid).2),fun id ver u h b hb=>?_⟩
 rw [f.rho] at hb ⊢
 exact n id (List.mem_filter.2 ⟨lookup_mem h,by unfold isFz; rw [h]⟩) false ver u h b hb
def Reps (g:Gh) (cs:List AV) (Vs:List Value):Prop:=Vs.length = cs.length∧∀ (j:Nat) c,cs[j]? = some c→∃ V,Vs[j]? = some V∧ARep g c V
theorem Reps.tail {c:AV} {V:Value} {cs:List AV} {Vs:List Value} (h:Reps g (c :: cs) (V :: Vs)):Reps g cs Vs:=⟨by simpa using h.1,fun j c hc=>by simpa using h.2 (j + 1) c (by simpa using hc)⟩
theorem Reps.head {c:AV} {V:Value} {cs:List AV} {Vs:List Value} (h:Reps g (c :: cs) (V :: Vs)):ARep g c V:=by
 obtain ⟨V',hV,hr⟩:=h.2 0 c rfl
 simp only [List.getElem?_cons_zero,Option.some.injEq] at hV
 subst hV
 exact hr
def From (g:Gh) (ids ids':List Nat) (b:Nat):Prop:=∃ id,id ∈ ids'∧id ∉ ids∧(lookup g.objs id).isSome = true∧g.ex id = true∧blk (g.ρ id) = some b
section out
variable {G:Nat→Option (List AV)} {objs objs':List (Nat×Ob)} {next:Nat} {w:World}
theorem out_cells (hM:Mem G w.heap.size w0 objs' next g) (hl:∀ id,lookup objs' id = lookup objs id) (hz:∀ id ver u,lookup objs id = some ⟨false,ver,.row u⟩→∀ b,blk (g.ρ id) = some b→¬ g.own b∨∃ A,g.ρ id = .slice A 0 0) :
  ∀ (cs:List AV) (ids:List Nat) (Vs:List Value) {cs':List AV} {ids':List Nat},outCells objs cs ids = some (cs',ids')→Reps g cs Vs→∃ bs,RCells w g.w g.own cs' Vs bs∧(∀ i,i ∈ ids→i ∈ ids')∧∀ b,b ∈ bs→From g ids ids' b
 | [],ids,Vs,cs',ids',h,hr=>by
  simp only [outCells,Option.some.injEq,Prod.mk.injEq] at h
  obtain ⟨rfl,rfl⟩:=h
  have:Vs = []:=List.length_eq_zero_iff.1 hr.1
  subst this
  exact ⟨[],.nil,fun _ h=>h,fun b h=>by cases h⟩
 | c :: r,ids,[],cs',ids',h,hr=>by have:=hr.1; simp at this
 | c :: r,ids,V :: Vs,cs',ids',h,hr=>by
  have hc:=hr.head
  have plain:∀ {c':AV} {ids1:List Nat},(match outCells objs r ids1 with
    | some (cs,ids'')=>some (c' :: cs,ids'')
    | none=>none) = some (cs',ids')→∃ cs1,outCells objs r ids1 = some (cs1,ids')∧cs' = c' :: cs1:=by
   intro c' ids1 h
   split at h
   ·rename_i cs1 ids2 h1
    simp only [Option.some.injEq,Prod.mk.injEq] at h
    obtain ⟨rfl,rfl⟩:=h
    exact ⟨_,h1,rfl⟩
   ·cases h
  simp only [outCells] at h
  split at h
  case h_2=>cases h
  rename_i c' ids1 hc1
  obtain ⟨cs1,h1,rfl⟩:=plain h
  split at hc1
  ·rename_i u
   simp only [Option.some.injEq,Prod.mk.injEq] at hc1
   obtain ⟨rfl,rfl⟩:=hc1
   obtain ⟨bs,k1,k2,k3⟩:=out_cells hM hl hz r _ Vs h1 hr.tail
   exact ⟨bs,.imm hc.imm_inv k1,k2,k3⟩
  ·rename_i u
   simp only [Option.some.injEq,Prod.mk.injEq] at hc1
   obtain ⟨rfl,rfl⟩:=hc1
   obtain ⟨bs,k1,k2,k3⟩:=out_cells hM hl hz r _ Vs h1 hr.tail
   refine ⟨bs,?_,k2,k3⟩
   cases hn:noneIV u with
   | false=>exact .imm (arep_slice_of hc (.inr rfl)) k1
   | true =>
    cases hs:u.isSl with
    | false=>exact .imm (arep_slice_of hc (.inr rfl)) k1
    | true =>
     cases hc with
     | @full _ ad n hq =>
      have h0:n = 0:=by
       have hl:=noneIV_len hn
       cases hq with
       | val _=>simp [noneIV] at hn
       | nilSlice _ _=>rfl
       | slice _ _ h2 _ _ _ _ _ _ _=>rw [hl] at h2; cases h2; rfl
      subst h0
      exact .shared hs hq k1
  ·rename_i f
   simp only [Option.some.injEq,Prod.mk.injEq] at hc1
   obtain ⟨rfl,rfl⟩:=hc1
   obtain ⟨bs,k1,k2,k3⟩:=out_cells hM hl hz r _ Vs h1 hr.tail
   cases hc with
   | fn q1 _ q2 _ =>
    rw [Array.eq_empty_of_size_eq_zero q1,Array.eq_empty_of_size_eq_zero q2]
    exact ⟨bs,.fn k1,k2,k3⟩
  ·rename_i id ver
   split at hc1
   ·rename_i ver' u hlk
    have hv:=nbeq (bif_some hc1).1
    replace hc1:=(bif_some hc1).2
    subst hv
    rw [lany_eq] at hc1
    cases hany:ids.any (fun j=>Nat.beq id j) with
    | true=>rw [hany,cond_true] at hc1; cases hc1
    | false =>
     rw [hany,cond_false] at hc1
     simp only [Option.some.injEq,Prod.mk.injEq] at hc1
     obtain ⟨rfl,rfl⟩:=hc1
     have hnid:id ∉ ids:=fun hm=>by
      have:=List.any_eq_false.1 hany id hm
      simp at this
     obtain ⟨bs,k1,k2,k3⟩:=out_cells hM hl hz r _ Vs h1 hr.tail
     have hlk':lookup g.objs id = some ⟨true,ver,.row u⟩:=by rw [hM.same,hl]; exact hlk
     have hV:V = g.ρ id:=by
      cases hc with
      | row r1 r2 r3 r4 r5=>rw [hlk'] at r1; cases r1; exact r4 rfl
     have hob:=hM.each id _ hlk'
     rw [← hV] at hob
     generalize hex:g.ex id = ee at hob
     have k3':∀ b,b ∈ bs→From g ids ids' b:=fun b hb=>by
      obtain ⟨i,e1,e2,e3⟩:=k3 b hb
      exact ⟨i,e1,fun h=>e2 (List.mem_cons_of_mem _ h),e3⟩
     cases hob with
     | shared q1 q2 q3 q4 =>
      obtain ⟨rfl,rfl⟩:=q2 rfl
      exact ⟨bs,.shared q3 q4 k1,fun i hi=>k2 i (List.mem_cons_of_mem _ hi),k3'⟩
     | @excl _ _ b n cap _ c T fr q1 q2 q3 q4 q5 q6 q7 q8 q9 q10 q11 =>
      subst q1
      have hblk:blk (g.ρ id) = some b:=by rw [← hV]; rfl
      have hb:=(hM.above id b (by rw [hlk']; rfl) hex hblk).1
      refine ⟨b :: bs,.excl hb q2 (q3 rfl) q4 q5 q6 q7 q8 q9 q10 (.inr ⟨id,by rw [hlk']; rfl,hex,hblk⟩) (fun hm=>?_) q11 k1,fun i hi=>k2 i (List.mem_cons_of_mem _ hi),fun b' hb'=>?_⟩
      ·obtain ⟨i,_,e2,e3,e4,e5⟩:=k3 b hm
       have:=hM.uniq i id b e3 (by rw [hlk']; rfl) e4 hex e5 hblk
       subst this
       exact e2 (List.mem_cons_self ..)
      ·rcases List.mem_cons.1 hb' with rfl | hb'
       ·exact ⟨id,k2 id (List.mem_cons_self ..),hnid,by rw [hlk']; rfl,hex,hblk⟩
       ·exact k3' b' hb'
   ·rename_i ver' u hlk
    have hv:=nbeq (bif_some hc1).1
    replace hc1:=(bif_some hc1).2
    subst hv
    simp only [Option.some.injEq,Prod.mk.injEq] at hc1
    obtain ⟨rfl,rfl⟩:=hc1
    obtain ⟨bs,k1,k2,k3⟩:=out_cells hM hl hz r _ Vs h1 hr.tail
    have hlk':lookup g.objs id = some ⟨false,ver,.row u⟩:=by rw [hM.same,hl]; exact hlk
    have hV:V = g.ρ id:=by
     cases hc with
     | row r1 r2 r3 r4 r5=>rw [hlk'] at r1; cases r1; exact r4 rfl
    have hob:=hM.each id _ hlk'
    have hzz:=hz id ver u hlk
    rw [← hV] at hob hzz
    generalize hex:g.ex id = ee at hob
    cases hob with
    | shared q1 q2 q3 q4=>exact ⟨bs,.imm q4 k1,k2,k3⟩
    | excl q1 _ _ q4 q5 =>
     subst q1
     rcases hzz _ rfl with h | ⟨A,h⟩
     ·exact (h (.inr ⟨id,by rw [hlk']; rfl,hex,by rw [← hV]; rfl⟩)).elim
     ·cases h
      exact ⟨bs,.imm (.nilSlice q4 q5) k1,k2,k3⟩
   ·cases hc1
  ·cases hc1
theorem outCells_flat (objs:List (Nat×Ob)):∀ (cs:List AV) (ids:List Nat) {cs':List AV} {ids':List Nat},outCells objs cs ids = some (cs',ids')→∀ c,c ∈ cs'→∀ xs,c≠.agg xs:=by
 intro cs
 induction cs with
 | nil =>
  intro ids cs' ids' h c hc
  simp only [outCells,Option.some.injEq,Prod.mk.injEq] at h
  obtain ⟨rfl,rfl⟩:=h
  cases hc
 | cons x r ih =>
  intro ids cs' ids' h c hc xs
  simp only [outCells] at h
  split at h
  case h_2=>cases h
  rename_i c' ids1 hc1
  split at h
  case h_2=>cases h
  rename_i cs1 ids2 h1
  simp only [Option.some.injEq,Prod.mk.injEq] at h
  obtain ⟨rfl,rfl⟩:=h
  rcases List.mem_cons.1 hc with rfl | hc
  ·intro he
   subst he
   split at hc1
   ·simp at hc1
   ·rename_i uu
    cases hn:noneIV uu <;> cases hs:uu.isSl <;> simp [hn,hs] at hc1
   ·simp at hc1
   ·split at hc1
    ·replace hc1:=(bif_some hc1).2
     generalize lany (fun j=>Nat.beq _ j) ids = bb at hc1
     cases bb <;> cases hc1
    ·replace hc1:=(bif_some hc1).2
     cases hc1
    ·cases hc1
   ·cases hc1
  ·exact ih ids1 h1 c hc xs
theorem out_res (hM : Mem G w.heap.size w0 objs' next g) (hl : ∀ id, lookup objs' id = lookup objs id) (hz : ∀ id ver u, lookup objs id = some ⟨false, ver, .row u⟩ → ∀ b, blk (g.ρ id) = some b → ¬ g.own b ∨ ∃ A, g.ρ id = .slice A 0 0) :
    ∀ (vs : List AV) (ids : List Nat) (Vs : List Value) {res : List AV}, outRes objs vs ids = some res → Reps g vs Vs → ∃ bs, RRes w g.w g.own res Vs bs ∧ ∀ b, b ∈ bs → ∃ id, id ∉ ids ∧ (lookup g.objs id).isSome = true ∧ g.ex id = true ∧ blk (g.ρ id) = some b
  | [], ids, Vs, res, h, hr => by
    simp only [outRes, Option.some.injEq] at h
    subst h
    have : Vs = [] := List.length_eq_zero_iff.1 hr.1
    subst this
    exact ⟨[], .nil, fun b h => by cases h⟩
  | c :: r, ids, [], res, h, hr => by have := hr.1; simp at this
  | c :: r, ids, V :: Vs, res, h, hr => by
    have hc := hr.head
    have apart : ∀ {bs bs' : List Nat} {ids1 : List Nat}, (∀ b, b ∈ bs → From g ids ids1 b) → (∀ b, b ∈ bs' → ∃ id, id ∉ ids1 ∧ (lookup g.objs id).isSome = true ∧ g.ex id = true ∧ blk (g.ρ id) = some b) → ∀ b, b ∈ bs → b ∉ bs' := by
      intro bs bs' ids1 h1 h2 b hb hb'
      obtain ⟨i, e1, _, e3, e4, e5⟩ := h1 b hb
      obtain ⟨j, f1, f3, f4, f5⟩ := h2 b hb'
      have := hM.uniq i j b e3 f3 e4 f4 e5 f5
      subst this
      exact f1 e1
    by_cases hagg : ∃ cs, c = .agg cs
    · obtain ⟨cs, rfl⟩ := hagg
      simp only [outRes] at h
      split at h
      case h_2 => cases h
      rename_i cs' ids1 h1
      rw [omap_eq, Option.map_eq_some_iff] at h
      obtain ⟨res', h2, rfl⟩ := h
      cases hc with
      | @agg _ vs q1 q2 q3 =>
        obtain ⟨bs, k1, k2, k3⟩ := out_cells hM hl hz cs ids vs.toList h1 ⟨by simpa using q1, fun j c hc => by
          have hj : j < vs.size := by rw [q1]; exact (List.getElem?_eq_some_iff.1 hc).1
          refine ⟨vs.getD j undef, ?_, q2 j c hc⟩
          rw [Array.getElem?_toList]
          exact some_of_lt hj⟩
        obtain ⟨bs', m1, m2⟩ := out_res hM hl hz r ids1 Vs h2 hr.tail
        refine ⟨bs ++ bs', .agg k1 (apart k3 m2) m1, fun b hb => ?_⟩
        rcases List.mem_append.1 hb with hb | hb
        · obtain ⟨i, _, e2, e3⟩ := k3 b hb; exact ⟨i, e2, e3⟩
        · obtain ⟨i, e2, e3⟩ := m2 b hb
          exact ⟨i, fun h => e2 (k2 i h), e3⟩
    · have hsh : outRes objs (c :: r) ids = match outCells objs [c] ids with
          | some ([c'], ids') => omap (c' :: ·) (outRes objs r ids')
          | _ => none := by
        cases c <;> first | rfl | exact absurd ⟨_, rfl⟩ hagg
      rw [hsh] at h
      split at h
      case h_2 => cases h
      rename_i c' ids1 h1
      rw [omap_eq, Option.map_eq_some_iff] at h
      obtain ⟨res', h2, rfl⟩ := h
      obtain ⟨bs, k1, k2, k3⟩ := out_cells hM hl hz [c] ids [V] h1 ⟨rfl, fun j x hx => by
        cases j with
        | zero => simp only [List.getElem?_cons_zero, Option.some.injEq] at hx; subst hx; exact ⟨V, rfl, hc⟩
        | succ j => simp at hx⟩
      obtain ⟨bs', m1, m2⟩ := out_res hM hl hz r ids1 Vs h2 hr.tail
      refine ⟨bs ++ bs', .one (outCells_flat objs [c] ids h1 c' (by simp)) k1 (apart k3 m2) m1, fun b hb => ?_⟩
      rcases List.mem_append.1 hb with hb | hb
      · obtain ⟨i, _, e2, e3⟩ := k3 b hb; exact ⟨i, e2, e3⟩
      · obtain ⟨i, e2, e3⟩ := m2 b hb
        exact ⟨i, fun h => e2 (k2 i h), e3⟩
end out
theorem RCells.less {w w':World} {O O':Nat→Prop} {cs:List AV} {Vs:List Value} {bs:List Nat} (h:RCells w w' O cs Vs bs) (ho:∀ b,O' b→O b) (hb:∀ b,b ∈ bs→O' b):RCells w w' O' cs Vs bs:=by
 induction h with
 | nil=>exact .nil
 | imm h1 _ ih=>exact .imm (h1.mono (Nat.le_refl _) (fun b _ h=>ho b h) (fun _ _ _=>rfl)) (ih hb)
 | fn _ ih=>exact .fn (ih hb)
 | shared h0 h1 _ ih=>exact .shared h0 (h1.mono (Nat.le_refl _) (fun b _ h=>ho b h) (fun _ _ _=>rfl)) (ih hb)
 | excl h1 h2 h3 h4 h5 h6 h7 h8 h9 h10 _ h12 h13 _ ih =>
  exact .excl h1 h2 h3 h4 h5 h6 h7 h8 h9 (fun i j u hu=>(h10 i j u hu).mono (Nat.le_refl _) (fun b _ h=>ho b h) (fun _ _ _=>rfl)) (hb _ (List.mem_cons_self ..)) h12 h13 (ih (fun b h=>hb b (List.mem_cons_of_mem _ h)))
theorem RRes.less {w w':World} {O O':Nat→Prop} {cs:List AV} {Vs:List Value} {bs:List Nat} (h:RRes w w' O cs Vs bs) (ho:∀ b,O' b→O b) (hb:∀ b,b ∈ bs→O' b):RRes w w' O' cs Vs bs:=by
 induction h with
 | nil=>exact .nil
 | agg h1 h2 _ ih=>exact .agg (h1.less ho (fun b h=>hb b (List.mem_append_left _ h))) h2 (ih (fun b h=>hb b (List.mem_append_right _ h)))
 | one h0 h1 h2 _ ih=>exact .one h0 (h1.less ho (fun b h=>hb b (List.mem_append_left _ h))) h2 (ih (fun b h=>hb b (List.mem_append_right _ h)))
theorem zero_own {w:World} {own:Nat→Prop} {b:Nat}:(zeroGh w own).own b↔own b:=by
 constructor
 ·rintro (h | ⟨id,h,_⟩)
  ·exact h
  ·simp [zeroGh,lookup] at h
 ·exact fun h=>.inl h
def endsAs (res:List AV):List AV→St→Prop:=fun vs st'=>match outRes st'.objs vs [] with
 | some r=>r = res
 | none=>False
theorem spec_done {f:FuncId} {fn:Func} {args res:List AV} (hf:C.P.funcs[f]? = some fn) (hn:(fn.name == "runtime.NumGoroutine") = false) (hb:fn.body.isNone = false)
  (h:(∀ p,p ∈ pres→p)→∀ (g:Gh) (b0:Nat) (w0:World) (vals:Array Value),Mem C.G b0 w0 st0.objs st0.next g→vals.size = args.length→(∀ (j:Nat) c,args[j]? = some c→ARep g c (vals.getD j undef)) →
   Calls C.P f vals g.w (FuncDone C b0 w0 st0 g (endsAs res) (fun _ _=>False))) :
  SpecOK C.P C.G f args pres res:=by
 refine ⟨⟨fn,hf,hn,hb⟩,fun hp w own vals hown hsz hargs hG=>?_⟩
 have hM:Mem C.G w.heap.size w st0.objs st0.next (zeroGh w own) :=
  ⟨rfl,fun id ob h=>by simp [zeroGh,lookup] at h,fun id id' b h=>by simp [zeroGh,lookup] at h,fun id _=>rfl,Below.refl _ _,Nat.le_refl _,fun b hb=>⟨hown b hb,fun id h=>by simp [zeroGh,lookup] at h⟩,fun id b h=>by simp [zeroGh,lookup] at h,fun n l hn=>by
   obtain ⟨q1,c,T,fr,q2,q3,q4,q5⟩:=hG n l hn
   refine ⟨fun h=>q1 (zero_own.1 h),c,T,fr,q2,q3,fun j u hu=>?_,q5⟩
   have:=q4 j u hu
   unfold GRep at this ⊢
   split at this
   ·exact this.mono (Nat.le_refl _) (fun b _ h=>zero_own.1 h) (fun _ _ _=>rfl)
   ·exact this
   ·exact this⟩
 have hc:=h hp _ _ _ vals hM hsz hargs
 refine hc.mono ?_
 rintro e w' (⟨vs,st',g',Vs,rfl,k1,k2,rfl,k4,k5,k6⟩ | ⟨v,st',g',V,rfl,k1,_⟩)
 ·unfold endsAs at k1
  split at k1
  case h_2=>exact k1.elim
  rename_i r hr
  subst k1
  obtain ⟨objs',g2,s1,s2,s3,s4,s5,s6,s7⟩:=settle_mem k2
  obtain ⟨bs,o1,o2⟩:=out_res s1 s6 s7 vs [] Vs hr ⟨k5,fun j c hc=>by
   obtain ⟨V,hV,hrep⟩:=k6 j c hc
   exact ⟨V,hV,hrep.ext s2 s3⟩⟩
  rw [s4] at o1
  refine ⟨Vs,bs,rfl,k2.below,o1.less (fun b hb=>?_) (fun b hb=>.inr hb),fun b hb=>(o1.nodup.2 b hb).2⟩
  rcases hb with hb | hb
  ·refine .inl ?_
   rw [s5,k4.base]
   exact hb
  ·obtain ⟨id,_,e2,e3,e4⟩:=o2 b hb
   exact .inr ⟨id,e2,e3,e4⟩
 ·exact k1.elim
theorem spec_ok {f:FuncId} {fn:Func} {args res:List AV} (hE:EOK C.P C.E C.G) (hC:CallOK C) (hf:C.P.funcs[f]? = some fn) (hn:(fn.name == "runtime.NumGoroutine") = false) (hb:fn.body.isNone = false) (h:(∀ p,p ∈ pres→p)→evSpec C fn args (fun r=>r = res)) :
  SpecOK C.P C.G f args pres res :=
 spec_done hf hn hb (fun hp g b0 w0 vals hM hsz hargs=>(evFunc_sound hE hC hf (h hp) hM hsz hargs).2)
end Go.AE
namespace Go.AE
open Go.RowKit
theorem rcells_settle {w w':World} {O O':Nat→Prop} {cs:List AV} {Vs:List Value} {bs:List Nat} (h:RCells w w' O cs Vs bs) (hO:∀ b,O' b→O b) (hf:∀ b,w.heap.size≤b→¬ O' b):RCells w w' O' (lmap settleCell cs) Vs []:=by
 induction h with
 | nil=>exact .nil
 | imm h1 _ ih=>exact .imm (h1.mono (Nat.le_refl _) (fun b _ hb=>hO b hb) (fun _ _ _=>rfl)) ih
 | fn _ ih=>exact .fn ih
 | shared _ h1 _ ih=>exact .imm (h1.mono (Nat.le_refl _) (fun b _ hb=>hO b hb) (fun _ _ _=>rfl)) ih
 | @excl u b n cap c' T fr r Vs bs h1 h2 h3 h4 h5 h6 h7 h8 h9 h10 h11 h12 h13 _ ih =>
  have hlt:b < w'.heap.size:=(Array.getElem?_eq_some_iff.1 h2).1
  refine .imm (.slice (fun i j=>c'.getD (i * u.esize + j) undef) h4 h5 h6 h7 h8 (hf b h1) hlt (fun i j x hx=>?_) (fun i j x hx=>?_)) ih
  ·obtain ⟨hi,hj⟩:=cellAt_lt h4 h5 hx
   have:(i + 1) * u.esize≤cap * u.esize:=Nat.mul_le_mul_right _ (by omega)
   rw [Nat.add_mul] at this
   rw [add_plain,Nat.zero_add,cell_of_row w' b _ c' T fr h2]
   exact some_of_lt (by omega)
  ·exact (h10 i j x hx).mono (Nat.le_refl _) (fun b _ hb=>hO b hb) (fun _ _ _=>rfl)
theorem rres_settle {w w':World} {O O':Nat→Prop} {res:List AV} {Vs:List Value} {bs:List Nat} (h:RRes w w' O res Vs bs) (hO:∀ b,O' b→O b) (hf:∀ b,w.heap.size≤b→¬ O' b):RRes w w' O' (lmap settle res) Vs []:=by
 induction h with
 | nil=>exact .nil
 | agg h1 _ _ ih=>exact .agg (bs:=[]) (bs':=[]) (rcells_settle h1 hO hf) (fun b hb=>by cases hb) ih
 | @one c V r Vs bs bs' h0 h1 _ _ ih =>
  have hs:=settle_one h0
  have:=rcells_settle h1 hO hf
  simp only [lmap] at this
  refine .one (bs:=[]) (bs':=[]) ?_ ?_ (fun b hb=>by cases hb) ih
  ·intro cs e
   rw [hs] at e
   cases c <;> simp [settleCell] at e
   exact h0 _ rfl
  ·rw [hs]; exact this
theorem spec_okS {C:Cx} {pres:List Prop} {f:FuncId} {fn:Func} {args res:List AV} (hE:EOK C.P C.E C.G) (hC:CallOK C) (hf:C.P.funcs[f]? = some fn) (hn:(fn.name == "runtime.NumGoroutine") = false) (hb:fn.body.isNone = false)
  (h:(∀ p,p ∈ pres→p)→evSpec C fn args (fun r=>lmap settle r = res)):SpecOK C.P C.G f args pres res:=by
 refine ⟨⟨fn,hf,hn,hb⟩,fun hp w own vals hown hsz hargs hG=>?_⟩
 have hM:Mem C.G w.heap.size w st0.objs st0.next (zeroGh w own) :=
  ⟨rfl,fun id ob h=>by simp [zeroGh,lookup] at h,fun id id' b h=>by simp [zeroGh,lookup] at h,fun id _=>rfl,Below.refl _ _,Nat.le_refl _,fun b hb=>⟨hown b hb,fun id h=>by simp [zeroGh,lookup] at h⟩,fun id b h=>by simp [zeroGh,lookup] at h,fun n l hn=>by
   obtain ⟨q1,c,T,fr,q2,q3,q4,q5⟩:=hG n l hn
   refine ⟨fun h=>q1 (zero_own.1 h),c,T,fr,q2,q3,fun j u hu=>?_,q5⟩
   have:=q4 j u hu
   unfold GRep at this ⊢
   split at this
   ·exact this.mono (Nat.le_refl _) (fun b _ h=>zero_own.1 h) (fun _ _ _=>rfl)
   ·exact this
   ·exact this⟩
 have hc:=(evFunc_sound hE hC hf (h hp) hM hsz hargs).2
 refine hc.mono ?_
 rintro e w' (⟨vs,st',g',Vs,rfl,k1,k2,rfl,k4,k5,k6⟩ | ⟨v,st',g',V,rfl,k1,_⟩)
 ·split at k1
  case h_2=>exact k1.elim
  rename_i r hr
  subst k1
  obtain ⟨objs',g2,s1,s2,s3,s4,s5,s6,s7⟩:=settle_mem k2
  obtain ⟨bs,o1,o2⟩:=out_res s1 s6 s7 vs [] Vs hr ⟨k5,fun j c hc=>by
   obtain ⟨V,hV,hrep⟩:=k6 j c hc
   exact ⟨V,hV,hrep.ext s2 s3⟩⟩
  rw [s4] at o1
  refine ⟨Vs,[],rfl,k2.below,rres_settle o1 (fun b hb=>?_) (fun b hle hb=>?_),fun b hb=>by cases hb⟩
  ·rcases hb with hb | hb
   ·refine .inl ?_
    rw [s5,k4.base]
    exact hb
   ·cases hb
  ·rcases hb with hb | hb
   ·have:=hown b hb; omega
   ·cases hb
 ·exact k1.elim
end Go.AE
namespace Go.AE
inductive Dir where
 | l | r | b
def codeAt:List Dir→Code→Code
 | [],c=>c
 | .l :: p,.seq a _=>codeAt p a
 | .r :: p,.seq _ b=>codeAt p b
 | .l :: p,.cond _ a _=>codeAt p a
 | .r :: p,.cond _ _ b=>codeAt p b
 | .b :: p,.block _ c=>codeAt p c
 | _,c=>c
def kAt (C:Cx):List Dir→Code→(AX→St→Prop)→(AX→St→Prop)
 | [],_,k=>k
 | .l :: p,.seq a b,k=>kAt C p a fun x st=>match x with
  | .normal=>evCode C b st k
  | x=>k x st
 | .r :: p,.seq _ b,k=>kAt C p b k
 | .l :: p,.cond _ a _,k=>kAt C p a k
 | .r :: p,.cond _ _ b,k=>kAt C p b k
 | .b :: p,.block id c,k=>kAt C p c fun x st=>match x with
  | .exit i=>bif Nat.beq i id then k .normal st else k (.exit i) st
  | x=>k x st
 | _,_,k=>k
def loopsIn:Code→List (List Dir)
 | .seq a b=>lapp (lmap (.l :: ·) (loopsIn a)) (lmap (.r :: ·) (loopsIn b))
 | .cond _ a b=>lapp (lmap (.l :: ·) (loopsIn a)) (lmap (.r :: ·) (loopsIn b))
 | .block _ c=>lmap (.b :: ·) (loopsIn c)
 | .loop _=>[[]]
 | _=>[]
def pathN:List (List Dir)→Nat→List Dir
 | [],_=>[]
 | p :: _,0=>p
 | _ :: r,i + 1=>pathN r i
def loopN (c:Code) (i:Nat):Code:=codeAt (pathN (loopsIn c) i) c
def unloop:Code→Code
 | .loop c=>c
 | c=>c
def loopB (c:Code) (i:Nat):Code:=unloop (loopN c i)
def loopK (C:Cx) (c:Code) (i:Nat) (k:AX→St→Prop):AX→St→Prop:=kAt C (pathN (loopsIn c) i) c k
def LoopI (C:Cx) (c:Code) (i:Nat) (st:St) (k:AX→St→Prop):Prop:=evCode C (.loop (loopB c i)) st (loopK C c i k)
def bodyOf (fn:Func):Code:=match fn.body with
 | some c=>c
 | none=>.skip
def finK (C:Cx) (fn:Func) (K:List AV→Prop):AX→St→Prop:=fun x st1=>match x with
 | .normal=>match resOf C.P st1 fn.results.toList with
  | some vs=>match outRes st1.objs vs [] with
   | some r=>K r
   | none=>False
  | none=>False
 | .ret=>match resOf C.P st1 fn.results.toList with
  | some vs=>match outRes st1.objs vs [] with
   | some r=>K r
   | none=>False
  | none=>False
 | _=>False
def sget:List (Nat×AV)→Nat→AV
 | [],_=>.dead
 | (i,v) :: r,j=>bif Nat.beq i j then v else sget r j
def spr (l:List (Nat×AV)):Nat→Nat→List AV
 | _,0=>[]
 | i,n + 1=>sget l i :: spr l (i + 1) n
def msk (l:List Nat):Nat→Nat→List Bool
 | _,0=>[]
 | i,n + 1=>natIn l i :: msk l (i + 1) n
def dN (n:Nat):List AV:=lrepl n .dead
theorem brn_intro {b:Bool} {x y:Prop} (h1:b = true→x) (h2:b = false→y):brn b x y:=by
 cases b
 ·exact h2 rfl
 ·exact h1 rfl
theorem loop_rule {C:Cx} {σ:Type} {c:Code} (I:σ→St) (P:σ→Prop) (μ:σ→Nat) {k:AX→St→Prop}
  (hbody:∀ s,P s→∀ K:AX→St→Prop,(∀ s' p st1,P s'→μ s' < μ s→norm p st1 = some (I s')→K .normal st1)→(∀ x st1,x≠.normal→k x st1→K x st1)→evCode C c (I s) K)
  (hu:C.rounds = 0) (s:σ) (p:Plan) (st:St) (hP:P s) (hn:norm p st = some (I s)):evCode C (.loop c) st k:=by
 simp only [evCode,hu]
 have key:∀ n s p st,P s→norm p st = some (I s)→μ s < n→LoopN (evCode C c) k n st:=by
  intro n
  induction n with
  | zero=>intro s p st _ _ h; omega
  | succ n ih =>
   intro s p st hP hn hμ
   refine ⟨p,I s,hn,hbody s hP _ (fun s' p' st1 hP' hμ' hn'=>?_) (fun x st1 hx hk=>?_)⟩
   ·exact ih s' p' st1 hP' hn' (by omega)
   ·cases x with
    | normal=>exact absurd rfl hx
    | _=>exact hk
 exact ⟨μ s + 1,key _ s p st hP hn (by omega)⟩
end Go.AE
namespace D6
open Go Go.AE Go.Proofs
def errT:Value:=.iface 130 (.agg #[.pointer (some ⟨2,94,none⟩)])
def G16:Nat→Option (List AV):=fun n=>bif Nat.beq n 0 then some [.imm (.bool false),.imm (.bool true)] else bif Nat.beq n 1 then some [.imm (.val errT)] else none
def flagOf:IV→Option Int
 | .sl n [[.iface t (.int .u8 x)]]=>bif Nat.beq n 1 then (bif Nat.beq t 97 then some x else none) else none
 | _=>none
def asCall (st:St) (k:AV→St→Prop):List AV→Prop
 | [.imm (.val .nilIface),.ifc t (.ptr _ off)]=>bif Nat.beq t 99 then (bif Nat.beq off 0 then k (.imm (.bool false)) st else False) else False
 | [.ifc u (.ptr i o),.ifc t (.ptr j off)]=>bif Nat.beq t 99 then bif Nat.beq u 126 then bif Nat.beq o 0 then bif Nat.beq off 0 then
   match lookup st.objs i,lookup st.objs j with
   | some ⟨_,_,.cells [.row r v]⟩,some ⟨own,ver,.cells [_]⟩=>match st.content (.row r v) with
    | some c=>match flagOf c with
     | some x=>k (.imm (.bool true)) { st with objs:=update st.objs j ⟨own,ver,.cells [.imm (.int .u8 x)]⟩ }
     | none=>False
    | none=>False
   | _,_=>False
   else False else False else False else False
 | _=>False
noncomputable def call16 (I:FuncId→Option Func) (E:FuncId→List AV→Option (List Prop×List AV)) (u n:Nat):FuncId→List AV→St→(AV→St→Prop)→(AV→St→Prop)→Prop :=
 fun f args st k kp=>bif Nat.beq f 67 then asCall st k args else inl I Tryd.prog E G16 u n f args st k kp
structure Ty where
 o:Int
 d:Bool
 g:Int
deriving DecidableEq
def cellsT (t:Ty):List IV:=[.int .i32 t.o,.bool t.d,.int .u8 t.g]
def tyOf (el:List IV):Ty:=⟨ivInt (ivNth el 0),ivBool (ivNth el 1),ivInt (ivNth el 2)⟩
def tys (xs:List (List IV)):List Ty:=xs.map tyOf
def okTy (t:Ty):Prop:=-2147483648≤t.o∧t.o≤2147483647∧0≤t.g∧t.g≤255
def okT (xs:List (List IV)):Prop:=xs = (tys xs).map cellsT∧∀ t ∈ tys xs,okTy t
def bo (b:Bool):AV:=.imm (.bool b)
def i64 (n:Int):AV:=.imm (.int .i64 n)
def st (s:List UInt8):AV:=.imm (.str s)
def slT (L:List Ty):IV:=.sl 3 (L.map cellsT)
def beN (l:List UInt8):Nat:=l.foldl (fun v b=>v * 256 + b.toNat) 0
def be:Nat→Nat→List UInt8
 | 0,_=>[]
 | n + 1,v=>be n (v / 256) ++ [UInt8.ofNat (v % 256)]
def sgnN (n:Nat) (v:Nat):Int:=if v < 2 ^ (8 * n - 1) then (v:Int) else (v:Int) - 2 ^ (8 * n)
def okR (b:List UInt8) (off n:Nat):Bool:=decide (off + n≤b.length)
def uintP (b:List UInt8) (off n:Nat):Nat:=if okR b off n then beN ((b.drop off).take n) else 0
def recB (b:List UInt8):Ty:=⟨sgnN 4 (beN (b.take 4)),b.getD 4 0 == 1,(b.getD 5 0).toNat⟩
def flags (b:List UInt8):Nat→Bool
 | 0=>true
 | k + 1=>flags b k && decide ((b.getD (6 * k + 4) 0).toNat≤1)
def recs (b:List UInt8):Nat→List Ty
 | 0=>[]
 | k + 1=>recs b k ++ [recB (b.drop (6 * k))]
def dec (b:List UInt8):List Ty:=if flags b (b.length / 6) then recs b (b.length / 6) else []
def decOk (b:List UInt8):Bool:=flags b (b.length / 6)
def u64 (n:Int):Nat:=(n % 18446744073709551616).toNat
def enc1 (t:Ty):List UInt8:=be 4 (u64 t.o) ++ [if t.d then 1 else 0,u8 t.g]
def enc:List Ty→List UInt8
 | []=>[]
 | t :: r=>enc1 t ++ enc r
def hold (t:Ty) (s:List UInt8):Bool:=t.o == 0 && !t.d && decide (s = [45,48,48])
def big:Int:=4611686018427387904
def sUint:List AV→Option (List Prop×List AV)
 | [.imm (.bytes b),.imm (.int .i64 off),.imm (.int .i64 n)]=>some ([(b.length:Int)≤big,0≤off,off≤big,0≤n,n≤8],[.imm (.int .u64 (uintP b off.toNat n.toNat:Int)),bo (okR b off.toNat n.toNat)])
 | _=>none
def sInt:List AV→Option (List Prop×List AV)
 | [.imm (.bytes b),.imm (.int .i64 off),.imm (.int .i64 n)]=>some ([(b.length:Int)≤big,0≤off,off≤big,1≤n,n≤8],[.imm (.int .i64 (sgnN n.toNat (uintP b off.toNat n.toNat))),bo (okR b off.toNat n.toNat)])
 | _=>none
def sAppend:List AV→Option (List Prop×List AV)
 | [.imm (.bytes b),.imm (.int .i64 n),.imm (.int .u64 v)]=>some ([(b.length:Int)≤1000000000000,0≤n,n≤8,0≤v,v < 18446744073709551616],[.new (.bytes (b ++ be n.toNat v.toNat))])
 | _=>none
def sHalf:List AV→Option (List Prop×List AV)
 | [.imm (.int .i64 n)]=>some ([1≤n,n≤8],[.imm (.int .u64 (2 ^ (8 * n.toNat - 1)))])
 | _=>none
def sSameB:List AV→Option (List Prop×List AV)
 | [.imm (.bytes a),.imm (.bytes b)]=>some ([(a.length:Int)≤big,(b.length:Int)≤big],[bo (decide (a = b))])
 | _=>none
def sSameT:List AV→Option (List Prop×List AV)
 | [.imm (.sl 3 xs),.imm (.sl 3 ys)]=>some ([okT xs,okT ys,(xs.length:Int)≤big,(ys.length:Int)≤big],[bo (decide (tys xs = tys ys))])
 | _=>none
def sDec:List AV→Option (List Prop×List AV)
 | [.imm (.bytes b)]=>some ([(b.length:Int)≤1000000000000],[.new (slT (dec b)),bo (decOk b)])
 | _=>none
def sEnc:List AV→Option (List Prop×List AV)
 | [.imm (.sl 3 xs)]=>some ([okT xs,(xs.length:Int)≤100000000000],[.new (.bytes (enc (tys xs)))])
 | _=>none
def E1:=addE (addE (addE (addE noE 81 sUint) 82 sUint) 70 sHalf) 20 sSameB
def E2:=addE (addE E1 68 sInt) 69 sInt
def E3:=addE (addE (addE E2 72 sAppend) 73 sAppend) 43 sSameT
def E4:=addE (addE (addE (addE E3 55 sEnc) 59 sEnc) 31 sDec) 39 sDec
noncomputable def cx (E:FuncId→List AV→Option (List Prop×List AV)):Cx:=⟨Tryd.prog,E,noCall,G16,0⟩
noncomputable def I16:FuncId→Option Func:=fun f=>bif Nat.beq f 66 then some Tryd.f66 else bif Nat.beq f 76 then some Tryd.f76 else none
noncomputable def C0:Cx:=cx noE
noncomputable def C1:Cx:=cx E1
noncomputable def C2:Cx:=cx E2
noncomputable def C3:Cx:=cx E3
end D6
namespace D6
open Go Go.AE Go.Proofs
def by' (b:List UInt8):AV:=.imm (.bytes b)
def u6 (n:Int):AV:=.imm (.int .u64 n)
def tl' (xs:List (List IV)):AV:=.imm (.sl 3 xs)
def ln (n:Nat):AV:=.imm (.int .i64 (n:Int))
def rowB (l:List UInt8):List (Nat×Ob):=[(0,⟨true,0,.row (.bytes l)⟩)]
def rowT (L:List Ty):List (Nat×Ob):=[(0,⟨true,0,.row (slT L)⟩)]
def h31 (b:List UInt8) (off n v:Int) (i:Nat):St:=⟨spr [(0,by' b),(1,i64 off),(2,i64 n),(8,u6 v),(26,i64 n),(27,ln i)] 0 42,[],0,[]⟩
def p31:Plan:=⟨[],msk [0,1,2,8,26,27] 0 42,[]⟩
def h29 (b:List UInt8) (off n v:Int) (i:Nat):St:=⟨spr [(0,by' b),(1,i64 off),(2,i64 n),(8,u6 v),(9,ln i)] 0 36,[],0,[]⟩
def p29:Plan:=⟨[],msk [0,1,2,8,9] 0 36,[]⟩
def h30 (n p:Int) (i:Nat):St:=⟨spr [(0,i64 n),(3,u6 p),(4,ln i)] 0 13,[],0,[]⟩
def p30:Plan:=⟨[],msk [0,3,4] 0 13,[]⟩
def h11 (a b:List UInt8) (i:Nat):St:=⟨spr [(0,by' a),(1,by' b),(5,ln i)] 0 26,[],0,[]⟩
def p11:Plan:=⟨[],msk [0,1,5] 0 26,[]⟩
def h10 (a b:List (List IV)) (i:Nat):St:=⟨spr [(0,tl' a),(1,tl' b),(5,ln i)] 0 26,[],0,[]⟩
def h21 (n v:Int) (l:List UInt8) (i:Nat):St:=⟨spr [(1,i64 n),(2,u6 v),(7,.row 0 0),(16,i64 n),(17,ln i)] 0 34,rowB l,1,[]⟩
def p21:Plan:=⟨[],msk [1,2,7,16,17] 0 34,[0]⟩
def h22 (b:List UInt8) (n v:Int) (own:Bool) (l:List UInt8) (i:Nat):St:=⟨spr [(0,by' b),(1,i64 n),(2,u6 v),(7,.row 0 0),(8,ln i)] 0 28,[(0,⟨own,0,.row (.bytes l)⟩)],1,[]⟩
def p22i:Plan:=⟨[.tmp 7 (.bytes [])],msk [0,1,2,7,8] 0 28,[0]⟩
def p22:Plan:=⟨[],msk [0,1,2,7,8] 0 28,[1]⟩
def h12 (xs:List (List IV)) (l:List UInt8) (i:Nat):St:=⟨spr [(3,.row 0 0),(11,tl' xs),(12,ln xs.length),(13,ln i)] 0 33,rowB l,1,[]⟩
def p12i:Plan:=⟨[],msk [3,11,12,13] 0 33,[0]⟩
def h13 (xs:List (List IV)) (l:List UInt8) (i:Nat):St:=⟨spr [(0,tl' xs),(3,.row 0 0),(4,ln i)] 0 36,rowB l,1,[]⟩
def p13i:Plan:=⟨[.tmp 3 (.bytes [])],msk [0,3,4] 0 36,[0]⟩
def h9a (b:List UInt8) (i:Nat):St:=⟨spr [(0,by' b),(4,ln i)] 0 57,[],0,[]⟩
def p9a:Plan:=⟨[],msk [0,4] 0 57,[]⟩
def h9b (b:List UInt8) (L:List Ty) (i:Nat):St:=⟨spr [(0,by' b),(5,.row 0 0),(6,ln i)] 0 57,rowT L,1,[]⟩
def p9bi:Plan:=⟨[.tmp 5 (.sl 3 [])],msk [0,5,6] 0 57,[0]⟩
noncomputable def C8:Cx:=⟨Tryd.prog,E3,call16 I16 E3 3 3,G16,0⟩
def h8 (b:List UInt8) (L:List Ty) (i:Nat):St:=⟨spr [(0,by' b),(4,.row 0 0),(5,ln i)] 0 33,rowT L,1,[]⟩
def p8i:Plan:=⟨[.tmp 4 (.sl 3 [])],msk [0,4,5] 0 33,[0]⟩
end D6
namespace Z19
open Go Go.AE Go.Proofs D6
structure Lp where
 a:Int
 c:Int
deriving DecidableEq
def cellsL (l:Lp):List IV:=[.int .i64 l.a,.int .i32 l.c]
def lpOf (el:List IV):Lp:=⟨ivInt (ivNth el 0),ivInt (ivNth el 1)⟩
def lps (xs:List (List IV)):List Lp:=xs.map lpOf
def okLp (l:Lp):Prop:=-9223372036854775808≤l.a∧l.a≤9223372036854775807∧-2147483648≤l.c∧l.c≤2147483647
def okL (xs:List (List IV)):Prop:=xs = (lps xs).map cellsL∧∀ l ∈ lps xs,okLp l
def slL (L:List Lp):IV:=.sl 2 (L.map cellsL)
def u32 (n:Int):AV:=.imm (.int .u32 n)
def curAV (d:List UInt8) (p e a:Int):AV:=.agg [by' d,i64 p,i64 e,i64 a]
structure Cu where
 d:List UInt8
 p:Int
 e:Int
 a:Int
def Cu.av (c:Cu):AV:=curAV c.d c.p c.e c.a
structure Hd where
 v:Int
 iu:Int
 is:Int
 l:Int
 t:Int
 ty:Int
 c:Int
deriving DecidableEq
def hdAV (v iu is l t ty c:Int):AV:=.agg [i64 v,u32 iu,u32 is,u32 l,u32 t,u32 ty,u32 c]
def Hd.av (h:Hd):AV:=hdAV h.v h.iu h.is h.l h.t h.ty h.c
def blkAV (T:List Int) (I:List UInt8) (X:List (List IV)) (C:List UInt8) (L:List (List IV)) (S U:List Bool):AV :=
 .agg [.imm (.ints .i64 T),by' I,.imm (.sl 3 X),by' C,.imm (.sl 2 L),.imm (.bools S),.imm (.bools U)]
def U32 (n:Int):Prop:=0≤n∧n≤4294967295
def okH (h:Hd):Prop:=U32 h.iu∧U32 h.is∧U32 h.l∧U32 h.t∧U32 h.ty∧U32 h.c
def restU (c:Cu):Int:=if c.e = 0 then (c.d.length:Int) - c.p else 0
def failU (c:Cu) (why at':Int):Cu:=if c.e = 0∧why≠0 then ⟨c.d,c.p,why,at'⟩ else c
def advOk (c:Cu) (n:Int):Bool:=decide (c.e = 0∧0≤n∧n≤restU c)
def advU (c:Cu) (n:Int):Cu:=if c.e = 0 then (if 0≤n∧n≤restU c then ⟨c.d,c.p + n,0,c.a⟩ else ⟨c.d,c.p,1,c.d.length⟩) else c
def takeU (c:Cu) (n:Int):List UInt8:=if advOk c n then (c.d.drop c.p.toNat).take n.toNat else []
def okU (c:Cu):Prop:=0≤c.p∧c.p≤(c.d.length:Int)∧(c.d.length:Int)≤1000000000000
def l0 (h:Hd) (s:Int):Int:=h.t * s
def l1 (h:Hd):Int:=h.t
def l2 (h:Hd):Int:=6 * h.ty
def l3 (h:Hd):Int:=h.c
def l4 (h:Hd) (s:Int):Int:=h.l * (s + 4)
def l5 (h:Hd):Int:=h.is
def l6 (h:Hd):Int:=h.iu
def sumU (h:Hd) (s:Int):Int:=l0 h s + l1 h + l2 h + l3 h + l4 h s + l5 h + l6 h
def o1 (h:Hd) (s:Int):Int:=l0 h s
def o2 (h:Hd) (s:Int):Int:=o1 h s + l1 h
def o3 (h:Hd) (s:Int):Int:=o2 h s + l2 h
def o4 (h:Hd) (s:Int):Int:=o3 h s + l3 h
def o5 (h:Hd) (s:Int):Int:=o4 h s + l4 h s
def o6 (h:Hd) (s:Int):Int:=o5 h s + l5 h
def o7 (h:Hd) (s:Int):Int:=o6 h s + l6 h
def u32w (n:Nat):Int:=IntKind.wrap .u32 (n:Int)
def hdOf (T:List Int) (X:List (List IV)) (C:List UInt8) (L:List (List IV)) (S U:List Bool) (v:Int):Hd:=⟨v,u32w U.length,u32w S.length,u32w L.length,u32w T.length,u32w X.length,u32w C.length⟩
def fewB (T:List Int) (I:List UInt8) (X:List (List IV)) (C:List UInt8) (L:List (List IV)) (S U:List Bool):Bool :=
 decide (T.length≤200) && decide (I.length≤200) && decide (X.length≤200) && decide (C.length≤600) && decide (L.length≤200) && decide (S.length≤200) && decide (U.length≤200)
def validC (c:Cu):Bool:=decide (0≤c.p) && decide (c.p≤(c.d.length:Int)) && (!decide (c.e = 0) || decide (c.a = 0)) && decide ((c.d.length:Int)≤2000)
def numAt (b:List UInt8) (s i:Nat):Int:=sgnN s (beN ((b.drop (s * i)).take s))
def decI (b:List UInt8) (s:Nat):Nat→List Int
 | 0=>[]
 | k + 1=>decI b s k ++ [numAt b s k]
def encI (s:Nat):List Int→List UInt8
 | []=>[]
 | t :: r=>be s (u64 t) ++ encI s r
def lpAt (b:List UInt8) (s i:Nat):Lp:=⟨sgnN s (beN ((b.drop ((s + 4) * i)).take s)),sgnN 4 (beN ((b.drop ((s + 4) * i + s)).take 4))⟩
def decL (b:List UInt8) (s:Nat):Nat→List Lp
 | 0=>[]
 | k + 1=>decL b s k ++ [lpAt b s k]
def encL (s:Nat):List Lp→List UInt8
 | []=>[]
 | l :: r=>be s (u64 l.a) ++ be 4 (u64 l.c) ++ encL s r
def indOk (b:List UInt8):Bool:=b.all fun x=>decide (x.toNat≤1)
def decO (b:List UInt8):List Bool:=if indOk b then b.map (fun x=>x == 1) else []
def encO (l:List Bool):List UInt8:=l.map fun x=>if x then 1 else 0
def fitsP (v n:Int):Bool:=decide (n = 8) || (decide (-2147483648≤v) && decide (v < 2147483648))
def fitP (T:List Int) (n:Int):Bool:=T.all fun v=>fitsP v n
def sz48 (n:Int):Prop:=n = 4∨n = 8
def mulU (a b m:Int):Int:=if a * b≤m then a * b else 0
def addU (a b m:Int):Int:=if a + b≤m then a + b else 0
def sNew:List AV→Option (List Prop×List AV)
 | [.imm (.bytes d)]=>some ([],[curAV d 0 0 0])
 | _=>none
def sRest:List AV→Option (List Prop×List AV)
 | [.agg [.imm (.bytes d),.imm (.int .i64 p),.imm (.int .i64 e),.imm (.int .i64 a)]]=>some ([okU ⟨d,p,e,a⟩],[i64 (restU ⟨d,p,e,a⟩)])
 | _=>none
def sFail:List AV→Option (List Prop×List AV)
 | [.agg [.imm (.bytes d),.imm (.int .i64 p),.imm (.int .i64 e),.imm (.int .i64 a)],.imm (.int .i64 w),.imm (.int .i64 t)]=>some ([],[(failU ⟨d,p,e,a⟩ w t).av])
 | _=>none
def sAdv:List AV→Option (List Prop×List AV)
 | [.agg [.imm (.bytes d),.imm (.int .i64 p),.imm (.int .i64 e),.imm (.int .i64 a)],.imm (.int .i64 n)]=>some ([okU ⟨d,p,e,a⟩],[(advU ⟨d,p,e,a⟩ n).av,bo (advOk ⟨d,p,e,a⟩ n)])
 | _=>none
def sTake:List AV→Option (List Prop×List AV)
 | [.agg [.imm (.bytes d),.imm (.int .i64 p),.imm (.int .i64 e),.imm (.int .i64 a)],.imm (.int .i64 n)]=>some ([okU ⟨d,p,e,a⟩],[.new (.bytes (takeU ⟨d,p,e,a⟩ n)),(advU ⟨d,p,e,a⟩ n).av])
 | _=>none
def hdS (k:Hd→Int→Option (List Prop×List AV)):List AV→Option (List Prop×List AV)
 | [.agg [.imm (.int .i64 v),.imm (.int .u32 iu),.imm (.int .u32 is),.imm (.int .u32 l),.imm (.int .u32 t),.imm (.int .u32 ty),.imm (.int .u32 c)],.imm (.int .i64 s)]=>k ⟨v,iu,is,l,t,ty,c⟩ s
 | _=>none
def sLens:List AV→Option (List Prop×List AV):=hdS fun h s=>some ([okH h,sz48 s],[.agg [u6 (l0 h s),u6 (l1 h),u6 (l2 h),u6 (l3 h),u6 (l4 h s),u6 (l5 h),u6 (l6 h)]])
def sOffs:List AV→Option (List Prop×List AV):=hdS fun h s=>some ([okH h,sz48 s],[.agg [u6 0,u6 (o1 h s),u6 (o2 h s),u6 (o3 h s),u6 (o4 h s),u6 (o5 h s),u6 (o6 h s),u6 (o7 h s)]])
def sSum:List AV→Option (List Prop×List AV):=hdS fun h s=>some ([okH h,sz48 s],[u6 (sumU h s)])
def sTotal:List AV→Option (List Prop×List AV)
 | [.agg [.imm (.int .i64 v),.imm (.int .u32 iu),.imm (.int .u32 is),.imm (.int .u32 l),.imm (.int .u32 t),.imm (.int .u32 ty),.imm (.int .u32 c)],.imm (.int .i64 s),.imm (.int .u64 m)] =>
  some ([okH ⟨v,iu,is,l,t,ty,c⟩,sz48 s,0≤m,m≤18446744073709551615],[u6 (if sumU ⟨v,iu,is,l,t,ty,c⟩ s≤m then sumU ⟨v,iu,is,l,t,ty,c⟩ s else 0),bo (decide (sumU ⟨v,iu,is,l,t,ty,c⟩ s≤m))])
 | _=>none
def sMul:List AV→Option (List Prop×List AV)
 | [.imm (.int .u64 a),.imm (.int .u64 b),.imm (.int .u64 m)]=>some ([0≤a,a≤4294967295,0≤b,b≤4294967295,0≤m,m≤18446744073709551615],[u6 (mulU a b m),bo (decide (a * b≤m))])
 | _=>none
def sAdd:List AV→Option (List Prop×List AV)
 | [.imm (.int .u64 a),.imm (.int .u64 b),.imm (.int .u64 m)]=>some ([0≤a,a≤18446744073709551615,0≤b,b≤18446744073709551615,0≤m,m≤18446744073709551615],[u6 (addU a b m),bo (decide (a + b≤m))])
 | _=>none
def sMul64:List AV→Option (List Prop×List AV)
 | [.imm (.int .u64 a),.imm (.int .u64 b)]=>some ([0≤a,a≤4294967295,0≤b,b≤4294967295],[u6 0,u6 (a * b)])
 | _=>none
def blkS (k:List Int→List UInt8→List (List IV)→List UInt8→List (List IV)→List Bool→List Bool→List AV→Option (List Prop×List AV)):List AV→Option (List Prop×List AV)
 | .agg [.imm (.ints .i64 T),.imm (.bytes I),.imm (.sl 3 X),.imm (.bytes C),.imm (.sl 2 L),.imm (.bools S),.imm (.bools U)] :: r=>k T I X C L S U r
 | _=>none
def sHeader:List AV→Option (List Prop×List AV):=blkS fun T I X C L S U r=>match r with
 | [.imm (.int .i64 v)]=>some ([],[(hdOf T X C L S U v).av])
 | _=>none
def sFew:List AV→Option (List Prop×List AV):=blkS fun T I X C L S U r=>match r with
 | []=>some ([],[bo (fewB T I X C L S U)])
 | _=>none
def sValid:List AV→Option (List Prop×List AV)
 | [.agg [.imm (.bytes d),.imm (.int .i64 p),.imm (.int .i64 e),.imm (.int .i64 a)]]=>some ([],[bo (validC ⟨d,p,e,a⟩)])
 | _=>none
def sSize:List AV→Option (List Prop×List AV)
 | [.imm (.bool w)]=>some ([],[i64 (if w then 8 else 4)])
 | _=>none
def big':Int:=1000000000000
def sSameI:List AV→Option (List Prop×List AV)
 | [.imm (.ints .i64 a),.imm (.ints .i64 b)]=>some ([(a.length:Int)≤big',(b.length:Int)≤big'],[bo (decide (a = b))])
 | _=>none
def sSameL:List AV→Option (List Prop×List AV)
 | [.imm (.sl 2 xs),.imm (.sl 2 ys)]=>some ([okL xs,okL ys,(xs.length:Int)≤big',(ys.length:Int)≤big'],[bo (decide (lps xs = lps ys))])
 | _=>none
def sSameO:List AV→Option (List Prop×List AV)
 | [.imm (.bools a),.imm (.bools b)]=>some ([(a.length:Int)≤big',(b.length:Int)≤big'],[bo (decide (a = b))])
 | _=>none
def sameK (T:List Int) (I:List UInt8) (X:List (List IV)) (C:List UInt8) (L:List (List IV)) (S U:List Bool) (T':List Int) (I':List UInt8) (X':List (List IV)) (C':List UInt8) (L':List (List IV)) (S' U':List Bool):Bool :=
 decide (T = T') && (decide (I = I') && (decide (tys X = tys X') && (decide (C = C') && (decide (lps L = lps L') && (decide (S = S') && decide (U = U'))))))
def okB (T:List Int) (I:List UInt8) (X:List (List IV)) (C:List UInt8) (L:List (List IV)) (S U:List Bool):Prop :=
 okT X∧okL L∧(T.length:Int)≤big'∧(I.length:Int)≤big'∧(X.length:Int)≤big'∧(C.length:Int)≤big'∧(L.length:Int)≤big'∧(S.length:Int)≤big'∧(U.length:Int)≤big'
def sEqual:List AV→Option (List Prop×List AV):=blkS fun T I X C L S U r=>blkS (fun T' I' X' C' L' S' U' r=>match r with
 | []=>some ([okB T I X C L S U,okB T' I' X' C' L' S' U'],[bo (sameK T I X C L S U T' I' X' C' L' S' U')])
 | _=>none) r
def sDecI:List AV→Option (List Prop×List AV)
 | [.imm (.bytes b),.imm (.int .i64 s)]=>some ([sz48 s,(b.length:Int)≤big'],[.new (.ints .i64 (decI b s.toNat (b.length / s.toNat)))])
 | _=>none
def sEncI:List AV→Option (List Prop×List AV)
 | [.imm (.ints .i64 T),.imm (.int .i64 s)]=>some ([sz48 s,(T.length:Int)≤10000000000],[.new (.bytes (encI s.toNat T))])
 | _=>none
def sDecL:List AV→Option (List Prop×List AV)
 | [.imm (.bytes b),.imm (.int .i64 s)]=>some ([sz48 s,(b.length:Int)≤big'],[.new (slL (decL b s.toNat (b.length / (s.toNat + 4))))])
 | _=>none
def sEncL:List AV→Option (List Prop×List AV)
 | [.imm (.sl 2 xs),.imm (.int .i64 s)]=>some ([okL xs,sz48 s,(xs.length:Int)≤10000000000],[.new (.bytes (encL s.toNat (lps xs)))])
 | _=>none
def sDecO:List AV→Option (List Prop×List AV)
 | [.imm (.bytes b)]=>some ([(b.length:Int)≤big'],[.new (.bools (decO b)),bo (indOk b)])
 | _=>none
def sEncO:List AV→Option (List Prop×List AV)
 | [.imm (.bools l)]=>some ([(l.length:Int)≤big'],[.new (.bytes (encO l))])
 | _=>none
def sFits:List AV→Option (List Prop×List AV)
 | [.imm (.int .i64 v),.imm (.int .i64 n)]=>some ([sz48 n],[bo (fitsP v n)])
 | _=>none
def sFit:List AV→Option (List Prop×List AV)
 | [.imm (.ints .i64 T),.imm (.int .i64 n)]=>some ([sz48 n,(T.length:Int)≤big],[bo (fitP T n)])
 | _=>none
def sConcat:List AV→Option (List Prop×List AV)
 | [.imm (.sl 1 [[.bytes a],[.bytes b],[.bytes c],[.bytes d],[.bytes e],[.bytes f],[.bytes g]])] =>
  some ([(a.length:Int)≤big',(b.length:Int)≤big',(c.length:Int)≤big',(d.length:Int)≤big',(e.length:Int)≤big',(f.length:Int)≤big',(g.length:Int)≤big'],[.new (.bytes (a ++ (b ++ (c ++ (d ++ (e ++ (f ++ g)))))))])
 | _=>none
end Z19
namespace Z19
open Go Go.AE Go.Proofs D6
def F1a:=addE (addE (addE (addE (addE (addE (addE E4 23 sNew) 26 sRest) 27 sFail) 35 sFail) 11 sSize) 9 sValid) 10 sFew
def F1b:=addE (addE (addE (addE F1a 16 sHeader) 17 sHeader) 83 sMul64) 75 sAdd
def F1c:=addE (addE (addE (addE (addE (addE (addE (addE F1b 42 sSameI) 46 sSameI) 47 sSameB) 48 sSameT) 44 sSameL) 49 sSameL) 45 sSameO) 50 sSameO
def F1d:=addE (addE (addE (addE (addE (addE (addE F1c 36 sLens) 33 sDecI) 38 sDecI) 34 sDecL) 40 sDecL) 32 sDecO) 41 sDecO
def F1:=addE (addE (addE (addE (addE (addE (addE F1d 54 sEncI) 58 sEncI) 56 sEncL) 60 sEncL) 57 sEncO) 61 sEncO) 51 sFits
def F2:=addE (addE (addE (addE (addE (addE (addE (addE F1 74 sMul) 64 sAdv) 24 sSum) 52 sFit) 14 sEqual) 18 sEqual) 65 sLens) 37 sTake
noncomputable def K0:Cx:=cx E4
noncomputable def K1:Cx:=cx F1
noncomputable def K2:Cx:=cx F2
def growP (st:St) (k:AV→St→Prop):List AV→Prop
 | [.full (.bytes []),.imm (.int .i64 n)]=>0≤n∧n≤100000000000000∧k (.row st.next 0) (st.new true (.row (.bytes [])))
 | _=>False
def xGrow:FuncId→List AV→St→(AV→St→Prop)→(AV→St→Prop)→Prop:=fun f args st k _=>bif Nat.beq f 71 then growP st k args else False
noncomputable def I2:FuncId→Option Func:=fun f=>bif Nat.beq f 62 then some Tryd.f62 else bif Nat.beq f 63 then some Tryd.f63 else none
noncomputable def inlU (E:FuncId→List AV→Option (List Prop×List AV)) (u:Nat):Cx:=⟨Tryd.prog,E,inlX xGrow I2 Tryd.prog E G16 u 3,G16,u⟩
noncomputable def K1u:Cx:=inlU F1 9
noncomputable def K2u:Cx:=inlU F2 9
end Z19
namespace Z19
open Go Go.AE Go.Proofs D6
def ii (l:List Int):AV:=.imm (.ints .i64 l)
def oo (l:List Bool):AV:=.imm (.bools l)
def ll (xs:List (List IV)):AV:=.imm (.sl 2 xs)
def rowI (l:List Int):List (Nat×Ob):=[(0,⟨true,0,.row (.ints .i64 l)⟩)]
def rowL (L:List Lp):List (Nat×Ob):=[(0,⟨true,0,.row (slL L)⟩)]
def rowO (l:List Bool):List (Nat×Ob):=[(0,⟨true,0,.row (.bools l)⟩)]
def hA (x y:AV) (i:Nat):St:=⟨spr [(0,x),(1,y),(5,ln i)] 0 26,[],0,[]⟩
def pA:Plan:=⟨[],msk [0,1,5] 0 26,[]⟩
def hB (x y:AV) (n i:Nat):St:=⟨spr [(0,x),(1,y),(12,ln n),(13,ln i)] 0 26,[],0,[]⟩
def pB:Plan:=⟨[],msk [0,1,12,13] 0 26,[]⟩
def h33 (b:List UInt8) (s:Int) (l:List Int) (i:Int):St:=⟨spr [(0,by' b),(1,i64 s),(5,.row 0 0),(6,i64 i)] 0 30,rowI l,1,[]⟩
def p33i:Plan:=⟨[.tmp 5 (.ints .i64 [])],msk [0,1,5,6] 0 30,[0]⟩
def h38 (b:List UInt8) (s:Int) (l:List Int) (i:Nat):St:=⟨spr [(0,by' b),(1,i64 s),(5,.row 0 0),(6,ln i)] 0 36,rowI l,1,[]⟩
def p38i:Plan:=⟨[.tmp 5 (.ints .i64 [])],msk [0,1,5,6] 0 36,[0]⟩
def h34 (b:List UInt8) (s:Int) (l:List Lp) (i:Int):St:=⟨spr [(0,by' b),(1,i64 s),(5,.row 0 0),(6,i64 i)] 0 45,rowL l,1,[]⟩
def p34i:Plan:=⟨[.tmp 5 (.sl 2 [])],msk [0,1,5,6] 0 45,[0]⟩
def h40 (b:List UInt8) (s n:Int) (l:List Lp) (i:Nat):St:=⟨spr [(0,by' b),(1,i64 s),(5,.row 0 0),(6,i64 n),(7,ln i)] 0 49,rowL l,1,[]⟩
def p40i:Plan:=⟨[.tmp 5 (.sl 2 [])],msk [0,1,5,6,7] 0 49,[0]⟩
def h32 (b:List UInt8) (l:List Bool) (i:Nat):St:=⟨spr [(4,.row 0 0),(7,by' b),(8,ln b.length),(9,ln i)] 0 24,rowO l,1,[]⟩
def p32i:Plan:=⟨[.tmp 4 (.bools [])],msk [4,7,8,9] 0 24,[0]⟩
def h41 (b:List UInt8) (l:List Bool) (i:Nat):St:=⟨spr [(0,by' b),(4,.row 0 0),(5,ln i)] 0 26,rowO l,1,[]⟩
def p41i:Plan:=⟨[.tmp 4 (.bools [])],msk [0,4,5] 0 26,[0]⟩
def h54 (T:List Int) (s:Int) (l:List UInt8) (i:Nat):St:=⟨spr [(1,i64 s),(5,.row 0 0),(13,ii T),(14,ln T.length),(15,ln i)] 0 27,rowB l,1,[]⟩
def p54i:Plan:=⟨[],msk [1,5,13,14,15] 0 27,[0]⟩
def h58 (T:List Int) (s:Int) (l:List UInt8) (i:Nat):St:=⟨spr [(0,ii T),(1,i64 s),(5,.row 0 0),(6,ln i)] 0 22,rowB l,1,[]⟩
def p58i:Plan:=⟨[.tmp 5 (.bytes [])],msk [0,1,5,6] 0 22,[0]⟩
def h56 (xs:List (List IV)) (s:Int) (l:List UInt8) (i:Nat):St:=⟨spr [(1,i64 s),(5,.row 0 0),(8,ll xs),(9,ln xs.length),(10,ln i)] 0 28,rowB l,1,[]⟩
def p56i:Plan:=⟨[.tmp 5 (.bytes [])],msk [1,5,8,9,10] 0 28,[0]⟩
def h60 (xs:List (List IV)) (s:Int) (l:List UInt8) (i:Nat):St:=⟨spr [(0,ll xs),(1,i64 s),(5,.row 0 0),(6,ln i)] 0 32,rowB l,1,[]⟩
def p60i:Plan:=⟨[.tmp 5 (.bytes [])],msk [0,1,5,6] 0 32,[0]⟩
def h57 (l:List Bool) (v:List UInt8) (i:Nat):St:=⟨spr [(3,.row 0 0),(9,oo l),(10,ln l.length),(11,ln i)] 0 22,rowB v,1,[]⟩
def p57i:Plan:=⟨[],msk [3,9,10,11] 0 22,[0]⟩
def h61 (l:List Bool) (v:List UInt8) (i:Nat):St:=⟨spr [(0,oo l),(3,.row 0 0),(4,ln i)] 0 22,rowB v,1,[]⟩
def p61i:Plan:=⟨[.tmp 3 (.bytes [])],msk [0,3,4] 0 22,[0]⟩
def h52 (T:List Int) (n:Int) (i:Nat):St:=⟨spr [(0,ii T),(1,i64 n),(5,ln i)] 0 19,[],0,[]⟩
def p52:Plan:=⟨[],msk [0,1,5] 0 19,[]⟩
def zCur:List AV:=[.imm (.val (.slice none 0 0)),i64 0,i64 0,i64 0]
def h37 (d:List UInt8) (p e a n:Int) (l:List UInt8) (i:Nat):St :=
 ⟨spr [(1,i64 n),(2,.ptr 0 0),(5,.ptr 1 0),(6,.row 2 0),(7,ln i)] 0 52,[(0,⟨true,0,.cells [by' d,i64 p,i64 e,i64 a]⟩),(1,⟨true,0,.cells zCur⟩),(2,⟨true,0,.row (.bytes l)⟩)],3,[]⟩
def p37i:Plan:=⟨[.tmp 6 (.bytes [])],msk [1,2,5,6,7] 0 52,[0,1,2]⟩
end Z19
namespace Z19
open Go Go.AE Go.Proofs D6
structure Bk where
 T:List Int
 I:List UInt8
 X:List Ty
 C:List UInt8
 L:List Lp
 S:List Bool
 U:List Bool
deriving DecidableEq
def Bk.av (b:Bk):AV:=blkAV b.T b.I (b.X.map cellsT) b.C (b.L.map cellsL) b.S b.U
def zB:Bk:=⟨[],[],[],[],[],[],[]⟩
def pt (d:List UInt8) (o n:Int):List UInt8:=(d.drop o.toNat).take n.toNat
def b0 (d:List UInt8) (h:Hd) (s:Int):List UInt8:=pt d 0 (l0 h s)
def b1 (d:List UInt8) (h:Hd) (s:Int):List UInt8:=pt d (o1 h s) (l1 h)
def b2 (d:List UInt8) (h:Hd) (s:Int):List UInt8:=pt d (o2 h s) (l2 h)
def b3 (d:List UInt8) (h:Hd) (s:Int):List UInt8:=pt d (o3 h s) (l3 h)
def b4 (d:List UInt8) (h:Hd) (s:Int):List UInt8:=pt d (o4 h s) (l4 h s)
def b5 (d:List UInt8) (h:Hd) (s:Int):List UInt8:=pt d (o5 h s) (l5 h)
def b6 (d:List UInt8) (h:Hd) (s:Int):List UInt8:=pt d (o6 h s) (l6 h)
def tI (b:List UInt8) (s:Int):List Int:=decI b s.toNat (b.length / s.toNat)
def tL (b:List UInt8) (s:Int):List Lp:=decL b s.toNat (b.length / (s.toNat + 4))
def decB (d:List UInt8) (h:Hd) (s:Int):Bk:=⟨tI (b0 d h s) s,b1 d h s,dec (b2 d h s),b3 d h s,tL (b4 d h s) s,decO (b5 d h s),decO (b6 d h s)⟩
def okD (d:List UInt8) (h:Hd) (s:Int):Bool:=decOk (b2 d h s) && indOk (b5 d h s) && indOk (b6 d h s)
def fitsD (c:Cu) (h:Hd) (s:Int):Bool:=decide (sumU h s≤restU c)
def decU (c:Cu) (h:Hd) (s a:Int):Bk×Cu :=
 if c.e = 0 then (if fitsD c h s then (if okD (c.d.drop c.p.toNat) h s then (decB (c.d.drop c.p.toNat) h s,⟨c.d,c.p + sumU h s,0,c.a⟩) else (zB,⟨c.d,c.p + sumU h s,10,a⟩)) else (zB,⟨c.d,c.p,1,c.d.length⟩)) else (zB,c)
def sDecode:List AV→Option (List Prop×List AV)
 | [.agg [.imm (.bytes d),.imm (.int .i64 p),.imm (.int .i64 e),.imm (.int .i64 a)],.agg [.imm (.int .i64 v),.imm (.int .u32 iu),.imm (.int .u32 is),.imm (.int .u32 l),.imm (.int .u32 t),.imm (.int .u32 ty),.imm (.int .u32 c)],.imm (.int .i64 s),.imm (.int .i64 at')] =>
  some ([okU ⟨d,p,e,a⟩,okH ⟨v,iu,is,l,t,ty,c⟩,sz48 s],[(decU ⟨d,p,e,a⟩ ⟨v,iu,is,l,t,ty,c⟩ s at').1.av,(decU ⟨d,p,e,a⟩ ⟨v,iu,is,l,t,ty,c⟩ s at').2.av])
 | _=>none
def encB (T:List Int) (I:List UInt8) (X:List Ty) (C:List UInt8) (L:List Lp) (S U:List Bool) (s:Nat):List UInt8:=encI s T ++ (I ++ (enc X ++ (C ++ (encL s L ++ (encO S ++ encO U)))))
def okE (T:List Int) (I:List UInt8) (X:List (List IV)) (C:List UInt8) (L:List (List IV)) (S U:List Bool):Prop :=
 okT X∧okL L∧(T.length:Int)≤1000000000∧(I.length:Int)≤1000000000∧(X.length:Int)≤1000000000∧(C.length:Int)≤1000000000∧(L.length:Int)≤1000000000∧(S.length:Int)≤1000000000∧(U.length:Int)≤1000000000
def sEncode:List AV→Option (List Prop×List AV):=blkS fun T I X C L S U r=>match r with
 | [.imm (.int .i64 s)]=>some ([okE T I X C L S U,sz48 s],[.new (.bytes (encB T I (tys X) C (lps L) S U s.toNat))])
 | _=>none
def okBb (T:List Int) (I:List UInt8) (X:List (List IV)) (C:List UInt8) (L:List (List IV)) (S U:List Bool):Prop:=okT X∧okL L∧(T.length:Int)≤big∧(L.length:Int)≤big
def fitL (L:List Lp) (s:Int):Bool:=L.all fun l=>fitsP l.a s
def encable (T:List Int) (I:List UInt8) (X:List (List IV)) (C:List UInt8) (L:List (List IV)) (S U:List Bool) (s:Int):Bool :=
 fitL (lps L) s && (decide (T.length = I.length) && (fitP T s && fewB T I X C L S U))
def sEncable:List AV→Option (List Prop×List AV):=blkS fun T I X C L S U r=>match r with
 | [.imm (.int .i64 s)]=>some ([okBb T I X C L S U,sz48 s],[bo (encable T I X C L S U s)])
 | _=>none
def sSameC:List AV→Option (List Prop×List AV)
 | [.agg [.imm (.bytes d),.imm (.int .i64 p),.imm (.int .i64 e),.imm (.int .i64 a)],.agg [.imm (.bytes d'),.imm (.int .i64 p'),.imm (.int .i64 e'),.imm (.int .i64 a')]] =>
  some ([(d.length:Int)≤big,(d'.length:Int)≤big],[bo (decide (d = d') && (p == p' && (e == e' && a == a')))])
 | _=>none
def F3:=addE (addE (addE (addE (addE (addE F2 25 sTotal) 28 sTake) 29 sOffs) 53 sConcat) 15 sSameC) 19 sEncable
noncomputable def K3:Cx:=cx F3
noncomputable def K3h:Cx:=⟨Tryd.prog,F3,(cx F3).call,G16,2000⟩
noncomputable def I3:FuncId→Option Func:=fun f=>bif Nat.beq f 30 then some Tryd.f30 else none
noncomputable def K3i:Cx:=⟨Tryd.prog,F3,inl I3 Tryd.prog F3 G16 0 3,G16,0⟩
def h13 (h:Hd) (s at':Int) (L:List AV) (d:List UInt8) (p e a:Int) (own:Bool) (xs:List (List IV)) (i:Int):St :=
 ⟨[],[],0,[]⟩
end Z19
namespace Z19
open Go Go.AE Go.Proofs D6
def blkC (T:List Int) (I:List UInt8) (X:List (List IV)) (C:List UInt8) (L:List (List IV)) (S U:List Bool):List AV:=[ii T,by' I,.imm (.sl 3 X),by' C,ll L,oo S,oo U]
def h19 (T:List Int) (I:List UInt8) (X:List (List IV)) (C:List UInt8) (L:List (List IV)) (S U:List Bool) (s:Int) (i:Nat):St :=
 ⟨spr [(1,i64 s),(2,.ptr 0 0),(5,ln i)] 0 39,[(0,⟨true,0,.cells (blkC T I X C L S U)⟩)],1,[]⟩
def p19i:Plan:=⟨[],msk [1,2,5] 0 39,[0]⟩
def nl:AV:=.imm (.val (.slice none 0 0))
def zBlk:List AV:=[nl,nl,nl,nl,nl,nl,nl]
def h13x (n0 n1 n2 n3 n4 n5 n6 s at':Int) (d:List UInt8) (p e a:Int) (xs:List (List IV)) (i:Int):St :=
 ⟨spr [(2,i64 s),(3,i64 at'),(8,.ptr 0 0),(9,.ptr 1 0),(10,.ptr 2 0),(11,.ptr 3 0),(12,.row 5 0),(13,.ptr 4 0),(14,i64 i)] 0 128,
  [(0,⟨true,0,.cells zBlk⟩),(1,⟨true,0,.cells zCur⟩),(2,⟨true,0,.cells zBlk⟩),(3,⟨true,0,.cells [u6 n0,u6 n1,u6 n2,u6 n3,u6 n4,u6 n5,u6 n6]⟩),(4,⟨true,0,.cells [by' d,i64 p,i64 e,i64 a]⟩),(5,⟨true,0,.row (.sl 1 xs)⟩)],6,[]⟩
def p13i:Plan:=⟨[.tmp 12 (.sl 1 [])],msk [2,3,8,9,10,11,12,13,14] 0 128,[2,3,4,5,6,7]⟩
end Z19
namespace Z19
open Go Go.AE Go.Proofs D6
def F4:=addE (addE (addE (addE F3 12 sDecode) 13 sDecode) 21 sEncode) 22 sEncode
def sAwake:List AV→Option (List Prop×List AV)
 | []=>some ([],[bo true])
 | _=>none
def F5:=addE F4 8 sAwake
noncomputable def K4h:Cx:=⟨Tryd.prog,F4,noCall,G16,3000⟩
def sm (S:St):Prop:=some S = some S
end Z19
set_option maxRecDepth 100000
namespace Z19
open Go Go.AE Go.Proofs D6
attribute [local irreducible] loopK evCode evSpec loopB norm
theorem f8_in (K:List AV→Prop):evSpec K4h Tryd.f8 [] K = (let Q1:List UInt8:=(encB [(-1:Int)] (List.map u8 [(1:Int)]) (tys [[IV.int IntKind.i32 (0:Int),IV.bool false,IV.int .u8 0],[IV.int IntKind.i32 (60:Int),IV.bool true,IV.int .u8 1]]) (List.map u8 [(0:Int),(0:Int)]) (lps []) [false,true] [] (4:Int).toNat); let Q2:Hd:=(hdOf [(-1:Int)] [[IV.int IntKind.i32 (0:Int),IV.bool false,IV.int .u8 0],[IV.int IntKind.i32 (60:Int),IV.bool true,IV.int .u8 1]] (List.map u8 [(0:Int),(0:Int)]) [] [false,true] [] (2:Int)); let Q3:Bk×Cu:=(decU (Cu.mk Q1 (0:Int) (0:Int) (0:Int)) (Hd.mk (Hd.v Q2) (Hd.iu Q2) (Hd.is Q2) (Hd.l Q2) (Hd.t Q2) (Hd.ty Q2) (Hd.c Q2)) (4:Int) (7:Int)); let Q4:List UInt8:=(encB [] [] (tys (List.replicate (1:Int).toNat [IV.int IntKind.i32 (0:Int),IV.bool false,IV.int .u8 0])) (List.map u8 [(0:Int)]) (lps []) [] [] (8:Int).toNat); let Q5:Bk×Cu:=(decU (Cu.mk (List.take ((20:Int).toNat - 0) (List.drop (0:Nat) Q1)) (0:Int) (0:Int) (0:Int)) (Hd.mk (Hd.v Q2) (Hd.iu Q2) (Hd.is Q2) (Hd.l Q2) (Hd.t Q2) (Hd.ty Q2) (Hd.c Q2)) (4:Int) (7:Int)); let Q6:Bk×Cu:=(decU (Cu.mk (List.set
 (List.map u8 [] ++ Q1) (20:Int).toNat (u8 (2:Int))) (0:Int) (0:Int) (0:Int)) (Hd.mk (Hd.v Q2) (Hd.iu Q2) (Hd.is Q2) (Hd.l Q2) (Hd.t Q2) (Hd.ty Q2) (Hd.c Q2)) (4:Int) (7:Int)); let E1:Prop:=((sm (St.mk (lapp [.imm (.bool false),.ptr 0 0,AV.row (1:Nat) (0:Nat),.ptr 2 0,AV.row (3:Nat) (0:Nat),.ptr 4 0,.ptr 5 0,.ptr 6 0] (lapp (dN 5) (lapp [AV.row (7:Nat) (0:Nat),.full (IV.bytes (List.map u8 [(0:Int)])),.agg [.imm (.val (Value.slice none (0:Nat) (0:Nat))),.imm (.val (Value.slice none (0:Nat) (0:Nat))),AV.row (7:Nat) (0:Nat),.full (IV.bytes (List.map u8 [(0:Int)])),.imm (.val (Value.slice none (0:Nat) (0:Nat))),.imm (.val (Value.slice none (0:Nat) (0:Nat))),.imm (.val (Value.slice none (0:Nat) (0:Nat)))],.agg [.imm (.val (Value.slice none (0:Nat) (0:Nat))),.imm (.val (Value.slice none (0:Nat) (0:Nat))),AV.row (7:Nat) (0:Nat),.full (IV.bytes (List.map u8 [(0:Int)])),.imm (.val (Value.slice none (0:Nat) (0:Nat))),.imm (.val (Value.slice none (0:Nat) (0:Nat))),.imm (.val (Value.slice none (0:Nat) (0:Nat)))],AV.row (1:Nat) (0:Nat),.full (IV.ints IntKind.i64 [(-1:Int)]),.full
 (IV.bytes (List.map u8 [(1:Int)])),.agg [.imm (.int IntKind.i32 (0:Int)),.imm (.bool false),.imm (.int .u8 0)],.agg [.imm (.int IntKind.i32 (60:Int)),.imm (.bool true),.imm (.int .u8 1)],.full (IV.sl (3:Nat) [[IV.int IntKind.i32 (0:Int),IV.bool false,IV.int .u8 0],[IV.int IntKind.i32 (60:Int),IV.bool true,IV.int .u8 1]]),.full (IV.bytes (List.map u8 [(0:Int),(0:Int)])),.full (IV.bools [false,true]),.agg [.full (IV.ints IntKind.i64 [(-1:Int)]),.full (IV.bytes (List.map u8 [(1:Int)])),.full (IV.sl (3:Nat) [[IV.int IntKind.i32 (0:Int),IV.bool false,IV.int .u8 0],[IV.int IntKind.i32 (60:Int),IV.bool true,IV.int .u8 1]]),.full (IV.bytes (List.map u8 [(0:Int),(0:Int)])),.imm (.val (Value.slice none (0:Nat) (0:Nat))),.full (IV.bools [false,true]),.imm (.val (Value.slice none (0:Nat) (0:Nat)))],.agg [.full (IV.ints IntKind.i64 [(-1:Int)]),.full (IV.bytes (List.map u8 [(1:Int)])),.full (IV.sl (3:Nat) [[IV.int IntKind.i32 (0:Int),IV.bool false,IV.int .u8 0],[IV.int IntKind.i32 (60:Int),IV.bool true,IV.int .u8 1]]),.full (IV.bytes (List.map u8 [(0:Int),(0:Int)])),.imm (.val (Value.slice none (0:Nat)
 (0:Nat))),.full (IV.bools [false,true]),.imm (.val (Value.slice none (0:Nat) (0:Nat)))],AV.row (3:Nat) (0:Nat),.agg [.full (IV.ints IntKind.i64 [(-1:Int)]),.full (IV.bytes (List.map u8 [(1:Int)])),.full (IV.sl (3:Nat) [[IV.int IntKind.i32 (0:Int),IV.bool false,IV.int .u8 0],[IV.int IntKind.i32 (60:Int),IV.bool true,IV.int .u8 1]]),.full (IV.bytes (List.map u8 [(0:Int),(0:Int)])),.imm (.val (Value.slice none (0:Nat) (0:Nat))),.full (IV.bools [false,true]),.imm (.val (Value.slice none (0:Nat) (0:Nat)))],.agg [.imm (.int .i64 2),.imm (.int IntKind.u32 (0:Int)),.imm (.int IntKind.u32 (2:Int)),.imm (.int IntKind.u32 (0:Int)),.imm (.int IntKind.u32 (1:Int)),.imm (.int IntKind.u32 (2:Int)),.imm (.int IntKind.u32 (2:Int))],AV.row (3:Nat) (0:Nat),.imm (.int .i64 (Q1.length:Int)),.imm (.bool ((Q1.length:Int) != 21)),.tup [.agg [.imm (.ints IntKind.i64 (Bk.T (Prod.fst Q3))),.imm (.bytes (Bk.I (Prod.fst Q3))),.imm (.sl (3:Nat) (List.map cellsT (Bk.X (Prod.fst Q3)))),.imm (.bytes (Bk.C (Prod.fst Q3))),.imm (.sl (2:Nat) (List.map cellsL (Bk.L (Prod.fst Q3)))),.imm (.bools (Bk.S (Prod.fst Q3))),.imm (.bools
 (Bk.U (Prod.fst Q3)))],.agg [.imm (.bytes (Cu.d (Prod.snd Q3))),.imm (.int .i64 (Cu.p (Prod.snd Q3))),.imm (.int .i64 (Cu.e (Prod.snd Q3))),.imm (.int .i64 (Cu.a (Prod.snd Q3)))]],AV.row (3:Nat) (0:Nat),.agg [.imm (.bytes Q1),.imm (.int .i64 0),.imm (.int .i64 0),.imm (.int .i64 0)],.agg [.imm (.int .i64 2),.imm (.int IntKind.u32 (0:Int)),.imm (.int IntKind.u32 (2:Int)),.imm (.int IntKind.u32 (0:Int)),.imm (.int IntKind.u32 (1:Int)),.imm (.int IntKind.u32 (2:Int)),.imm (.int IntKind.u32 (2:Int))],.tup [.agg [.imm (.ints IntKind.i64 (Bk.T (Prod.fst Q3))),.imm (.bytes (Bk.I (Prod.fst Q3))),.imm (.sl (3:Nat) (List.map cellsT (Bk.X (Prod.fst Q3)))),.imm (.bytes (Bk.C (Prod.fst Q3))),.imm (.sl (2:Nat) (List.map cellsL (Bk.L (Prod.fst Q3)))),.imm (.bools (Bk.S (Prod.fst Q3))),.imm (.bools (Bk.U (Prod.fst Q3)))],.agg [.imm (.bytes (Cu.d (Prod.snd Q3))),.imm (.int .i64 (Cu.p (Prod.snd Q3))),.imm (.int .i64 (Cu.e (Prod.snd Q3))),.imm (.int .i64 (Cu.a (Prod.snd Q3)))]],.agg [.imm (.ints IntKind.i64 (Bk.T (Prod.fst Q3))),.imm (.bytes (Bk.I (Prod.fst Q3))),.imm (.sl (3:Nat) (List.map cellsT (Bk.X (Prod.fst Q3)))),.imm (.bytes (Bk.C (Prod.fst
 Q3))),.imm (.sl (2:Nat) (List.map cellsL (Bk.L (Prod.fst Q3)))),.imm (.bools (Bk.S (Prod.fst Q3))),.imm (.bools (Bk.U (Prod.fst Q3)))],.agg [.imm (.bytes (Cu.d (Prod.snd Q3))),.imm (.int .i64 (Cu.p (Prod.snd Q3))),.imm (.int .i64 (Cu.e (Prod.snd Q3))),.imm (.int .i64 (Cu.a (Prod.snd Q3)))]] (dN 92)))) [(0,Ob.mk true 0 (AObj.cells [.imm (.val (Value.slice none (0:Nat) (0:Nat))),.imm (.val (Value.slice none (0:Nat) (0:Nat))),AV.row (7:Nat) (0:Nat),.full (IV.bytes (List.map u8 [(0:Int)])),.imm (.val (Value.slice none (0:Nat) (0:Nat))),.imm (.val (Value.slice none (0:Nat) (0:Nat))),.imm (.val (Value.slice none (0:Nat) (0:Nat)))])),(1,Ob.mk true 0 (AObj.row (IV.bytes Q4))),(2,Ob.mk true 0 (AObj.cells [.full (IV.ints IntKind.i64 [(-1:Int)]),.full (IV.bytes (List.map u8 [(1:Int)])),.full (IV.sl (3:Nat) [[IV.int IntKind.i32 (0:Int),IV.bool false,IV.int .u8 0],[IV.int IntKind.i32 (60:Int),IV.bool true,IV.int .u8 1]]),.full (IV.bytes (List.map u8 [(0:Int),(0:Int)])),.imm (.val (Value.slice none (0:Nat) (0:Nat))),.full (IV.bools [false,true]),.imm (.val (Value.slice none (0:Nat) (0:Nat)))])),(3,Ob.mk false 0
 (AObj.row (IV.bytes Q1))),(4,Ob.mk true 0 (AObj.cells [.imm (.int .i64 2),.imm (.int IntKind.u32 (0:Int)),.imm (.int IntKind.u32 (2:Int)),.imm (.int IntKind.u32 (0:Int)),.imm (.int IntKind.u32 (1:Int)),.imm (.int IntKind.u32 (2:Int)),.imm (.int IntKind.u32 (2:Int))])),(5,Ob.mk true 0 (AObj.cells [.imm (.ints IntKind.i64 (Bk.T (Prod.fst Q3))),.imm (.bytes (Bk.I (Prod.fst Q3))),.imm (.sl (3:Nat) (List.map cellsT (Bk.X (Prod.fst Q3)))),.imm (.bytes (Bk.C (Prod.fst Q3))),.imm (.sl (2:Nat) (List.map cellsL (Bk.L (Prod.fst Q3)))),.imm (.bools (Bk.S (Prod.fst Q3))),.imm (.bools (Bk.U (Prod.fst Q3)))])),(6,Ob.mk true 0 (AObj.cells [.imm (.bytes (Cu.d (Prod.snd Q3))),.imm (.int .i64 (Cu.p (Prod.snd Q3))),.imm (.int .i64 (Cu.e (Prod.snd Q3))),.imm (.int .i64 (Cu.a (Prod.snd Q3)))])),(7,Ob.mk false 0 (AObj.row (IV.sl (3:Nat) [[IV.int IntKind.i32 (0:Int),IV.bool false,IV.int .u8 0]])))] (8:Nat) []))); let E2:Prop:=((sm (St.mk (lapp [.imm (.bool false),.ptr 0 0,AV.row (1:Nat) (0:Nat),.ptr 2 0,AV.row (3:Nat) (0:Nat),.ptr 4 0,.ptr 5 0,.ptr 6 0,.ptr 7 0,.ptr 8 0,.dead,.dead,.dead,AV.row (9:Nat) (0:Nat),.full (IV.bytes
 (List.map u8 [(0:Int)])),.agg [.imm (.val (Value.slice none (0:Nat) (0:Nat))),.imm (.val (Value.slice none (0:Nat) (0:Nat))),AV.row (9:Nat) (0:Nat),.full (IV.bytes (List.map u8 [(0:Int)])),.imm (.val (Value.slice none (0:Nat) (0:Nat))),.imm (.val (Value.slice none (0:Nat) (0:Nat))),.imm (.val (Value.slice none (0:Nat) (0:Nat)))],.agg [.imm (.val (Value.slice none (0:Nat) (0:Nat))),.imm (.val (Value.slice none (0:Nat) (0:Nat))),AV.row (9:Nat) (0:Nat),.full (IV.bytes (List.map u8 [(0:Int)])),.imm (.val (Value.slice none (0:Nat) (0:Nat))),.imm (.val (Value.slice none (0:Nat) (0:Nat))),.imm (.val (Value.slice none (0:Nat) (0:Nat)))],AV.row (1:Nat) (0:Nat),.full (IV.ints IntKind.i64 [(-1:Int)]),.full (IV.bytes (List.map u8 [(1:Int)])),.agg [.imm (.int IntKind.i32 (0:Int)),.imm (.bool false),.imm (.int .u8 0)],.agg [.imm (.int IntKind.i32 (60:Int)),.imm (.bool true),.imm (.int .u8 1)],.full (IV.sl (3:Nat) [[IV.int IntKind.i32 (0:Int),IV.bool false,IV.int .u8 0],[IV.int IntKind.i32 (60:Int),IV.bool true,IV.int .u8 1]]),.full (IV.bytes (List.map u8 [(0:Int),(0:Int)])),.full (IV.bools
 [false,true]),.agg [.full (IV.ints IntKind.i64 [(-1:Int)]),.full (IV.bytes (List.map u8 [(1:Int)])),.full (IV.sl (3:Nat) [[IV.int IntKind.i32 (0:Int),IV.bool false,IV.int .u8 0],[IV.int IntKind.i32 (60:Int),IV.bool true,IV.int .u8 1]]),.full (IV.bytes (List.map u8 [(0:Int),(0:Int)])),.imm (.val (Value.slice none (0:Nat) (0:Nat))),.full (IV.bools [false,true]),.imm (.val (Value.slice none (0:Nat) (0:Nat)))],.agg [.full (IV.ints IntKind.i64 [(-1:Int)]),.full (IV.bytes (List.map u8 [(1:Int)])),.full (IV.sl (3:Nat) [[IV.int IntKind.i32 (0:Int),IV.bool false,IV.int .u8 0],[IV.int IntKind.i32 (60:Int),IV.bool true,IV.int .u8 1]]),.full (IV.bytes (List.map u8 [(0:Int),(0:Int)])),.imm (.val (Value.slice none (0:Nat) (0:Nat))),.full (IV.bools [false,true]),.imm (.val (Value.slice none (0:Nat) (0:Nat)))],AV.row (3:Nat) (0:Nat),.agg [.full (IV.ints IntKind.i64 [(-1:Int)]),.full (IV.bytes (List.map u8 [(1:Int)])),.full (IV.sl (3:Nat) [[IV.int IntKind.i32 (0:Int),IV.bool false,IV.int .u8 0],[IV.int IntKind.i32 (60:Int),IV.bool true,IV.int .u8 1]]),.full (IV.bytes (List.map u8 [(0:Int),(0 :
 Int)])),.imm (.val (Value.slice none (0:Nat) (0:Nat))),.full (IV.bools [false,true]),.imm (.val (Value.slice none (0:Nat) (0:Nat)))],.agg [.imm (.int .i64 2),.imm (.int IntKind.u32 (0:Int)),.imm (.int IntKind.u32 (2:Int)),.imm (.int IntKind.u32 (0:Int)),.imm (.int IntKind.u32 (1:Int)),.imm (.int IntKind.u32 (2:Int)),.imm (.int IntKind.u32 (2:Int))],AV.row (3:Nat) (0:Nat),.imm (.int .i64 (Q1.length:Int)),.imm (.bool ((Q1.length:Int) != 21)),.tup [.agg [.imm (.ints IntKind.i64 (Bk.T (Prod.fst Q3))),.imm (.bytes (Bk.I (Prod.fst Q3))),.imm (.sl (3:Nat) (List.map cellsT (Bk.X (Prod.fst Q3)))),.imm (.bytes (Bk.C (Prod.fst Q3))),.imm (.sl (2:Nat) (List.map cellsL (Bk.L (Prod.fst Q3)))),.imm (.bools (Bk.S (Prod.fst Q3))),.imm (.bools (Bk.U (Prod.fst Q3)))],.agg [.imm (.bytes (Cu.d (Prod.snd Q3))),.imm (.int .i64 (Cu.p (Prod.snd Q3))),.imm (.int .i64 (Cu.e (Prod.snd Q3))),.imm (.int .i64 (Cu.a (Prod.snd Q3)))]],AV.row (3:Nat) (0:Nat),.agg [.imm (.bytes Q1),.imm (.int .i64 0),.imm (.int .i64 0),.imm (.int .i64 0)],.agg [.imm (.int .i64 2),.imm (.int IntKind.u32 (0:Int)),.imm (.int IntKind.u32 (2:Int)),.imm (.int
 IntKind.u32 (0:Int)),.imm (.int IntKind.u32 (1:Int)),.imm (.int IntKind.u32 (2:Int)),.imm (.int IntKind.u32 (2:Int))],.tup [.agg [.imm (.ints IntKind.i64 (Bk.T (Prod.fst Q3))),.imm (.bytes (Bk.I (Prod.fst Q3))),.imm (.sl (3:Nat) (List.map cellsT (Bk.X (Prod.fst Q3)))),.imm (.bytes (Bk.C (Prod.fst Q3))),.imm (.sl (2:Nat) (List.map cellsL (Bk.L (Prod.fst Q3)))),.imm (.bools (Bk.S (Prod.fst Q3))),.imm (.bools (Bk.U (Prod.fst Q3)))],.agg [.imm (.bytes (Cu.d (Prod.snd Q3))),.imm (.int .i64 (Cu.p (Prod.snd Q3))),.imm (.int .i64 (Cu.e (Prod.snd Q3))),.imm (.int .i64 (Cu.a (Prod.snd Q3)))]],.agg [.imm (.ints IntKind.i64 (Bk.T (Prod.fst Q3))),.imm (.bytes (Bk.I (Prod.fst Q3))),.imm (.sl (3:Nat) (List.map cellsT (Bk.X (Prod.fst Q3)))),.imm (.bytes (Bk.C (Prod.fst Q3))),.imm (.sl (2:Nat) (List.map cellsL (Bk.L (Prod.fst Q3)))),.imm (.bools (Bk.S (Prod.fst Q3))),.imm (.bools (Bk.U (Prod.fst Q3)))],.agg [.imm (.bytes (Cu.d (Prod.snd Q3))),.imm (.int .i64 (Cu.p (Prod.snd Q3))),.imm (.int .i64 (Cu.e (Prod.snd Q3))),.imm (.int .i64 (Cu.a (Prod.snd Q3)))],.tup [.agg [.imm (.ints IntKind.i64 (Bk.T (Prod.fst Q5))),.imm (.bytes (Bk.I (Prod.fst Q5))),.imm (.sl
 (3:Nat) (List.map cellsT (Bk.X (Prod.fst Q5)))),.imm (.bytes (Bk.C (Prod.fst Q5))),.imm (.sl (2:Nat) (List.map cellsL (Bk.L (Prod.fst Q5)))),.imm (.bools (Bk.S (Prod.fst Q5))),.imm (.bools (Bk.U (Prod.fst Q5)))],.agg [.imm (.bytes (Cu.d (Prod.snd Q5))),.imm (.int .i64 (Cu.p (Prod.snd Q5))),.imm (.int .i64 (Cu.e (Prod.snd Q5))),.imm (.int .i64 (Cu.a (Prod.snd Q5)))]],AV.row (3:Nat) (0:Nat),.imm (.bytes (List.take ((20:Int).toNat - 0) (List.drop (0:Nat) Q1))),.agg [.imm (.bytes (List.take ((20:Int).toNat - 0) (List.drop (0:Nat) Q1))),.imm (.int .i64 0),.imm (.int .i64 0),.imm (.int .i64 0)],.agg [.imm (.int .i64 2),.imm (.int IntKind.u32 (0:Int)),.imm (.int IntKind.u32 (2:Int)),.imm (.int IntKind.u32 (0:Int)),.imm (.int IntKind.u32 (1:Int)),.imm (.int IntKind.u32 (2:Int)),.imm (.int IntKind.u32 (2:Int))],.tup [.agg [.imm (.ints IntKind.i64 (Bk.T (Prod.fst Q5))),.imm (.bytes (Bk.I (Prod.fst Q5))),.imm (.sl (3:Nat) (List.map cellsT (Bk.X (Prod.fst Q5)))),.imm (.bytes (Bk.C (Prod.fst Q5))),.imm (.sl (2:Nat) (List.map cellsL (Bk.L (Prod.fst Q5)))),.imm (.bools (Bk.S (Prod.fst Q5))),.imm (.bools (Bk.U (Prod.fst Q5)))],.agg [.imm
 (.bytes (Cu.d (Prod.snd Q5))),.imm (.int .i64 (Cu.p (Prod.snd Q5))),.imm (.int .i64 (Cu.e (Prod.snd Q5))),.imm (.int .i64 (Cu.a (Prod.snd Q5)))]],.agg [.imm (.ints IntKind.i64 (Bk.T (Prod.fst Q5))),.imm (.bytes (Bk.I (Prod.fst Q5))),.imm (.sl (3:Nat) (List.map cellsT (Bk.X (Prod.fst Q5)))),.imm (.bytes (Bk.C (Prod.fst Q5))),.imm (.sl (2:Nat) (List.map cellsL (Bk.L (Prod.fst Q5)))),.imm (.bools (Bk.S (Prod.fst Q5))),.imm (.bools (Bk.U (Prod.fst Q5)))],.agg [.imm (.bytes (Cu.d (Prod.snd Q5))),.imm (.int .i64 (Cu.p (Prod.snd Q5))),.imm (.int .i64 (Cu.e (Prod.snd Q5))),.imm (.int .i64 (Cu.a (Prod.snd Q5)))]] (dN 84)) [(0,Ob.mk true 0 (AObj.cells [.imm (.val (Value.slice none (0:Nat) (0:Nat))),.imm (.val (Value.slice none (0:Nat) (0:Nat))),AV.row (9:Nat) (0:Nat),.full (IV.bytes (List.map u8 [(0:Int)])),.imm (.val (Value.slice none (0:Nat) (0:Nat))),.imm (.val (Value.slice none (0:Nat) (0:Nat))),.imm (.val (Value.slice none (0:Nat) (0:Nat)))])),(1,Ob.mk true 0 (AObj.row (IV.bytes Q4))),(2,Ob.mk true 0 (AObj.cells [.full (IV.ints IntKind.i64 [(-1:Int)]),.full (IV.bytes (List.map u8 [(1:Int)])),.full (IV.sl (3:Nat) [[IV.int
 IntKind.i32 (0:Int),IV.bool false,IV.int .u8 0],[IV.int IntKind.i32 (60:Int),IV.bool true,IV.int .u8 1]]),.full (IV.bytes (List.map u8 [(0:Int),(0:Int)])),.imm (.val (Value.slice none (0:Nat) (0:Nat))),.full (IV.bools [false,true]),.imm (.val (Value.slice none (0:Nat) (0:Nat)))])),(3,Ob.mk false 0 (AObj.row (IV.bytes Q1))),(4,Ob.mk true 0 (AObj.cells [.imm (.int .i64 2),.imm (.int IntKind.u32 (0:Int)),.imm (.int IntKind.u32 (2:Int)),.imm (.int IntKind.u32 (0:Int)),.imm (.int IntKind.u32 (1:Int)),.imm (.int IntKind.u32 (2:Int)),.imm (.int IntKind.u32 (2:Int))])),(5,Ob.mk true 0 (AObj.cells [.imm (.ints IntKind.i64 (Bk.T (Prod.fst Q3))),.imm (.bytes (Bk.I (Prod.fst Q3))),.imm (.sl (3:Nat) (List.map cellsT (Bk.X (Prod.fst Q3)))),.imm (.bytes (Bk.C (Prod.fst Q3))),.imm (.sl (2:Nat) (List.map cellsL (Bk.L (Prod.fst Q3)))),.imm (.bools (Bk.S (Prod.fst Q3))),.imm (.bools (Bk.U (Prod.fst Q3)))])),(6,Ob.mk true 0 (AObj.cells [.imm (.bytes (Cu.d (Prod.snd Q3))),.imm (.int .i64 (Cu.p (Prod.snd Q3))),.imm (.int .i64 (Cu.e (Prod.snd Q3))),.imm (.int .i64 (Cu.a (Prod.snd Q3)))])),(7,Ob.mk true 0 (AObj.cells [.imm (.ints
 IntKind.i64 (Bk.T (Prod.fst Q5))),.imm (.bytes (Bk.I (Prod.fst Q5))),.imm (.sl (3:Nat) (List.map cellsT (Bk.X (Prod.fst Q5)))),.imm (.bytes (Bk.C (Prod.fst Q5))),.imm (.sl (2:Nat) (List.map cellsL (Bk.L (Prod.fst Q5)))),.imm (.bools (Bk.S (Prod.fst Q5))),.imm (.bools (Bk.U (Prod.fst Q5)))])),(8,Ob.mk true 0 (AObj.cells [.imm (.bytes (Cu.d (Prod.snd Q5))),.imm (.int .i64 (Cu.p (Prod.snd Q5))),.imm (.int .i64 (Cu.e (Prod.snd Q5))),.imm (.int .i64 (Cu.a (Prod.snd Q5)))])),(9,Ob.mk false 0 (AObj.row (IV.sl (3:Nat) [[IV.int IntKind.i32 (0:Int),IV.bool false,IV.int .u8 0]])))] (10:Nat) []))); let E3:Prop:=((sm (St.mk (lapp [.imm (.bool false),.ptr 0 0,AV.row (1:Nat) (0:Nat),.ptr 2 0,AV.row (3:Nat) (0:Nat),.ptr 4 0,.ptr 5 0,.ptr 6 0,.ptr 7 0,.ptr 8 0,AV.row (9:Nat) (0:Nat),.ptr 10 0,.ptr 11 0,AV.row (12:Nat) (0:Nat),.full (IV.bytes (List.map u8 [(0:Int)])),.agg [.imm (.val (Value.slice none (0:Nat) (0:Nat))),.imm (.val (Value.slice none (0:Nat) (0:Nat))),AV.row (12:Nat) (0:Nat),.full (IV.bytes (List.map u8 [(0:Int)])),.imm (.val (Value.slice none (0:Nat) (0:Nat))),.imm (.val (Value.slice none (0:Nat) (0
 : Nat))),.imm (.val (Value.slice none (0:Nat) (0:Nat)))],.agg [.imm (.val (Value.slice none (0:Nat) (0:Nat))),.imm (.val (Value.slice none (0:Nat) (0:Nat))),AV.row (12:Nat) (0:Nat),.full (IV.bytes (List.map u8 [(0:Int)])),.imm (.val (Value.slice none (0:Nat) (0:Nat))),.imm (.val (Value.slice none (0:Nat) (0:Nat))),.imm (.val (Value.slice none (0:Nat) (0:Nat)))],AV.row (1:Nat) (0:Nat),.full (IV.ints IntKind.i64 [(-1:Int)]),.full (IV.bytes (List.map u8 [(1:Int)])),.agg [.imm (.int IntKind.i32 (0:Int)),.imm (.bool false),.imm (.int .u8 0)],.agg [.imm (.int IntKind.i32 (60:Int)),.imm (.bool true),.imm (.int .u8 1)],.full (IV.sl (3:Nat) [[IV.int IntKind.i32 (0:Int),IV.bool false,IV.int .u8 0],[IV.int IntKind.i32 (60:Int),IV.bool true,IV.int .u8 1]]),.full (IV.bytes (List.map u8 [(0:Int),(0:Int)])),.full (IV.bools [false,true]),.agg [.full (IV.ints IntKind.i64 [(-1:Int)]),.full (IV.bytes (List.map u8 [(1:Int)])),.full (IV.sl (3:Nat) [[IV.int IntKind.i32 (0:Int),IV.bool false,IV.int .u8 0],[IV.int IntKind.i32 (60:Int),IV.bool true,IV.int .u8 1]]),.full (IV.bytes (List.map u8 [(0:Int),(0 :
 Int)])),.imm (.val (Value.slice none (0:Nat) (0:Nat))),.full (IV.bools [false,true]),.imm (.val (Value.slice none (0:Nat) (0:Nat)))],.agg [.full (IV.ints IntKind.i64 [(-1:Int)]),.full (IV.bytes (List.map u8 [(1:Int)])),.full (IV.sl (3:Nat) [[IV.int IntKind.i32 (0:Int),IV.bool false,IV.int .u8 0],[IV.int IntKind.i32 (60:Int),IV.bool true,IV.int .u8 1]]),.full (IV.bytes (List.map u8 [(0:Int),(0:Int)])),.imm (.val (Value.slice none (0:Nat) (0:Nat))),.full (IV.bools [false,true]),.imm (.val (Value.slice none (0:Nat) (0:Nat)))],AV.row (3:Nat) (0:Nat),.agg [.full (IV.ints IntKind.i64 [(-1:Int)]),.full (IV.bytes (List.map u8 [(1:Int)])),.full (IV.sl (3:Nat) [[IV.int IntKind.i32 (0:Int),IV.bool false,IV.int .u8 0],[IV.int IntKind.i32 (60:Int),IV.bool true,IV.int .u8 1]]),.full (IV.bytes (List.map u8 [(0:Int),(0:Int)])),.imm (.val (Value.slice none (0:Nat) (0:Nat))),.full (IV.bools [false,true]),.imm (.val (Value.slice none (0:Nat) (0:Nat)))],.agg [.imm (.int .i64 2),.imm (.int IntKind.u32 (0:Int)),.imm (.int IntKind.u32 (2:Int)),.imm (.int IntKind.u32 (0:Int)),.imm (.int IntKind.u32 (1 :
 Int)),.imm (.int IntKind.u32 (2:Int)),.imm (.int IntKind.u32 (2:Int))],AV.row (3:Nat) (0:Nat),.imm (.int .i64 (Q1.length:Int)),.imm (.bool ((Q1.length:Int) != 21)),.tup [.agg [.imm (.ints IntKind.i64 (Bk.T (Prod.fst Q3))),.imm (.bytes (Bk.I (Prod.fst Q3))),.imm (.sl (3:Nat) (List.map cellsT (Bk.X (Prod.fst Q3)))),.imm (.bytes (Bk.C (Prod.fst Q3))),.imm (.sl (2:Nat) (List.map cellsL (Bk.L (Prod.fst Q3)))),.imm (.bools (Bk.S (Prod.fst Q3))),.imm (.bools (Bk.U (Prod.fst Q3)))],.agg [.imm (.bytes (Cu.d (Prod.snd Q3))),.imm (.int .i64 (Cu.p (Prod.snd Q3))),.imm (.int .i64 (Cu.e (Prod.snd Q3))),.imm (.int .i64 (Cu.a (Prod.snd Q3)))]],AV.row (3:Nat) (0:Nat),.agg [.imm (.bytes Q1),.imm (.int .i64 0),.imm (.int .i64 0),.imm (.int .i64 0)],.agg [.imm (.int .i64 2),.imm (.int IntKind.u32 (0:Int)),.imm (.int IntKind.u32 (2:Int)),.imm (.int IntKind.u32 (0:Int)),.imm (.int IntKind.u32 (1:Int)),.imm (.int IntKind.u32 (2:Int)),.imm (.int IntKind.u32 (2:Int))],.tup [.agg [.imm (.ints IntKind.i64 (Bk.T (Prod.fst Q3))),.imm (.bytes (Bk.I (Prod.fst Q3))),.imm (.sl (3:Nat) (List.map cellsT (Bk.X (Prod.fst Q3)))),.imm (.bytes (Bk.C
 (Prod.fst Q3))),.imm (.sl (2:Nat) (List.map cellsL (Bk.L (Prod.fst Q3)))),.imm (.bools (Bk.S (Prod.fst Q3))),.imm (.bools (Bk.U (Prod.fst Q3)))],.agg [.imm (.bytes (Cu.d (Prod.snd Q3))),.imm (.int .i64 (Cu.p (Prod.snd Q3))),.imm (.int .i64 (Cu.e (Prod.snd Q3))),.imm (.int .i64 (Cu.a (Prod.snd Q3)))]],.agg [.imm (.ints IntKind.i64 (Bk.T (Prod.fst Q3))),.imm (.bytes (Bk.I (Prod.fst Q3))),.imm (.sl (3:Nat) (List.map cellsT (Bk.X (Prod.fst Q3)))),.imm (.bytes (Bk.C (Prod.fst Q3))),.imm (.sl (2:Nat) (List.map cellsL (Bk.L (Prod.fst Q3)))),.imm (.bools (Bk.S (Prod.fst Q3))),.imm (.bools (Bk.U (Prod.fst Q3)))],.agg [.imm (.bytes (Cu.d (Prod.snd Q3))),.imm (.int .i64 (Cu.p (Prod.snd Q3))),.imm (.int .i64 (Cu.e (Prod.snd Q3))),.imm (.int .i64 (Cu.a (Prod.snd Q3)))],.tup [.agg [.imm (.ints IntKind.i64 (Bk.T (Prod.fst Q5))),.imm (.bytes (Bk.I (Prod.fst Q5))),.imm (.sl (3:Nat) (List.map cellsT (Bk.X (Prod.fst Q5)))),.imm (.bytes (Bk.C (Prod.fst Q5))),.imm (.sl (2:Nat) (List.map cellsL (Bk.L (Prod.fst Q5)))),.imm (.bools (Bk.S (Prod.fst Q5))),.imm (.bools (Bk.U (Prod.fst Q5)))],.agg [.imm (.bytes (Cu.d (Prod.snd Q5))),.imm (.int .i64 (Cu.p (Prod.snd Q5))),
 .imm (.int .i64 (Cu.e (Prod.snd Q5))),.imm (.int .i64 (Cu.a (Prod.snd Q5)))]],AV.row (3:Nat) (0:Nat),.imm (.bytes (List.take ((20:Int).toNat - 0) (List.drop (0:Nat) Q1))),.agg [.imm (.bytes (List.take ((20:Int).toNat - 0) (List.drop (0:Nat) Q1))),.imm (.int .i64 0),.imm (.int .i64 0),.imm (.int .i64 0)],.agg [.imm (.int .i64 2),.imm (.int IntKind.u32 (0:Int)),.imm (.int IntKind.u32 (2:Int)),.imm (.int IntKind.u32 (0:Int)),.imm (.int IntKind.u32 (1:Int)),.imm (.int IntKind.u32 (2:Int)),.imm (.int IntKind.u32 (2:Int))],.tup [.agg [.imm (.ints IntKind.i64 (Bk.T (Prod.fst Q5))),.imm (.bytes (Bk.I (Prod.fst Q5))),.imm (.sl (3:Nat) (List.map cellsT (Bk.X (Prod.fst Q5)))),.imm (.bytes (Bk.C (Prod.fst Q5))),.imm (.sl (2:Nat) (List.map cellsL (Bk.L (Prod.fst Q5)))),.imm (.bools (Bk.S (Prod.fst Q5))),.imm (.bools (Bk.U (Prod.fst Q5)))],.agg [.imm (.bytes (Cu.d (Prod.snd Q5))),.imm (.int .i64 (Cu.p (Prod.snd Q5))),.imm (.int .i64 (Cu.e (Prod.snd Q5))),.imm (.int .i64 (Cu.a (Prod.snd Q5)))]],.agg [.imm (.ints IntKind.i64 (Bk.T (Prod.fst Q5))),.imm (.bytes (Bk.I (Prod.fst Q5))),.imm (.sl (3:Nat) (List.map cellsT (Bk.X (Prod.fst Q5)))),
 .imm (.bytes (Bk.C (Prod.fst Q5))),.imm (.sl (2:Nat) (List.map cellsL (Bk.L (Prod.fst Q5)))),.imm (.bools (Bk.S (Prod.fst Q5))),.imm (.bools (Bk.U (Prod.fst Q5)))],.agg [.imm (.bytes (Cu.d (Prod.snd Q5))),.imm (.int .i64 (Cu.p (Prod.snd Q5))),.imm (.int .i64 (Cu.e (Prod.snd Q5))),.imm (.int .i64 (Cu.a (Prod.snd Q5)))],.full (IV.bytes (List.map u8 [])),AV.row (3:Nat) (0:Nat),AV.row (9:Nat) (0:Nat),AV.row (9:Nat) (0:Nat),AV.elp (9:Nat) (0:Nat) (20:Nat) (0:Nat),.tup [.agg [.imm (.ints IntKind.i64 (Bk.T (Prod.fst Q6))),.imm (.bytes (Bk.I (Prod.fst Q6))),.imm (.sl (3:Nat) (List.map cellsT (Bk.X (Prod.fst Q6)))),.imm (.bytes (Bk.C (Prod.fst Q6))),.imm (.sl (2:Nat) (List.map cellsL (Bk.L (Prod.fst Q6)))),.imm (.bools (Bk.S (Prod.fst Q6))),.imm (.bools (Bk.U (Prod.fst Q6)))],.agg [.imm (.bytes (Cu.d (Prod.snd Q6))),.imm (.int .i64 (Cu.p (Prod.snd Q6))),.imm (.int .i64 (Cu.e (Prod.snd Q6))),.imm (.int .i64 (Cu.a (Prod.snd Q6)))]],AV.row (9:Nat) (0:Nat),.agg [.imm (.bytes (List.set (List.map u8 [] ++ Q1) (20:Int).toNat (u8 (2:Int)))),.imm (.int .i64 0),.imm (.int .i64 0),.imm (.int .i64 0)],.agg [.imm (.int .i64 2),.imm (.int
 IntKind.u32 (0:Int)),.imm (.int IntKind.u32 (2:Int)),.imm (.int IntKind.u32 (0:Int)),.imm (.int IntKind.u32 (1:Int)),.imm (.int IntKind.u32 (2:Int)),.imm (.int IntKind.u32 (2:Int))],.tup [.agg [.imm (.ints IntKind.i64 (Bk.T (Prod.fst Q6))),.imm (.bytes (Bk.I (Prod.fst Q6))),.imm (.sl (3:Nat) (List.map cellsT (Bk.X (Prod.fst Q6)))),.imm (.bytes (Bk.C (Prod.fst Q6))),.imm (.sl (2:Nat) (List.map cellsL (Bk.L (Prod.fst Q6)))),.imm (.bools (Bk.S (Prod.fst Q6))),.imm (.bools (Bk.U (Prod.fst Q6)))],.agg [.imm (.bytes (Cu.d (Prod.snd Q6))),.imm (.int .i64 (Cu.p (Prod.snd Q6))),.imm (.int .i64 (Cu.e (Prod.snd Q6))),.imm (.int .i64 (Cu.a (Prod.snd Q6)))]],.agg [.imm (.ints IntKind.i64 (Bk.T (Prod.fst Q6))),.imm (.bytes (Bk.I (Prod.fst Q6))),.imm (.sl (3:Nat) (List.map cellsT (Bk.X (Prod.fst Q6)))),.imm (.bytes (Bk.C (Prod.fst Q6))),.imm (.sl (2:Nat) (List.map cellsL (Bk.L (Prod.fst Q6)))),.imm (.bools (Bk.S (Prod.fst Q6))),.imm (.bools (Bk.U (Prod.fst Q6)))],.agg [.imm (.bytes (Cu.d (Prod.snd Q6))),.imm (.int .i64 (Cu.p (Prod.snd Q6))),.imm (.int .i64 (Cu.e (Prod.snd Q6))),.imm (.int .i64 (Cu.a (Prod.snd Q6)))]] (dN 72)) [(0,Ob.mk true 0
 (AObj.cells [.imm (.val (Value.slice none (0:Nat) (0:Nat))),.imm (.val (Value.slice none (0:Nat) (0:Nat))),AV.row (12:Nat) (0:Nat),.full (IV.bytes (List.map u8 [(0:Int)])),.imm (.val (Value.slice none (0:Nat) (0:Nat))),.imm (.val (Value.slice none (0:Nat) (0:Nat))),.imm (.val (Value.slice none (0:Nat) (0:Nat)))])),(1,Ob.mk true 0 (AObj.row (IV.bytes Q4))),(2,Ob.mk true 0 (AObj.cells [.full (IV.ints IntKind.i64 [(-1:Int)]),.full (IV.bytes (List.map u8 [(1:Int)])),.full (IV.sl (3:Nat) [[IV.int IntKind.i32 (0:Int),IV.bool false,IV.int .u8 0],[IV.int IntKind.i32 (60:Int),IV.bool true,IV.int .u8 1]]),.full (IV.bytes (List.map u8 [(0:Int),(0:Int)])),.imm (.val (Value.slice none (0:Nat) (0:Nat))),.full (IV.bools [false,true]),.imm (.val (Value.slice none (0:Nat) (0:Nat)))])),(3,Ob.mk false 0 (AObj.row (IV.bytes Q1))),(4,Ob.mk true 0 (AObj.cells [.imm (.int .i64 2),.imm (.int IntKind.u32 (0:Int)),.imm (.int IntKind.u32 (2:Int)),.imm (.int IntKind.u32 (0:Int)),.imm (.int IntKind.u32 (1:Int)),.imm (.int IntKind.u32 (2:Int)),.imm (.int IntKind.u32 (2:Int))])),(5,Ob.mk true 0 (AObj.cells [.imm (.ints
 IntKind.i64 (Bk.T (Prod.fst Q3))),.imm (.bytes (Bk.I (Prod.fst Q3))),.imm (.sl (3:Nat) (List.map cellsT (Bk.X (Prod.fst Q3)))),.imm (.bytes (Bk.C (Prod.fst Q3))),.imm (.sl (2:Nat) (List.map cellsL (Bk.L (Prod.fst Q3)))),.imm (.bools (Bk.S (Prod.fst Q3))),.imm (.bools (Bk.U (Prod.fst Q3)))])),(6,Ob.mk true 0 (AObj.cells [.imm (.bytes (Cu.d (Prod.snd Q3))),.imm (.int .i64 (Cu.p (Prod.snd Q3))),.imm (.int .i64 (Cu.e (Prod.snd Q3))),.imm (.int .i64 (Cu.a (Prod.snd Q3)))])),(7,Ob.mk true 0 (AObj.cells [.imm (.ints IntKind.i64 (Bk.T (Prod.fst Q5))),.imm (.bytes (Bk.I (Prod.fst Q5))),.imm (.sl (3:Nat) (List.map cellsT (Bk.X (Prod.fst Q5)))),.imm (.bytes (Bk.C (Prod.fst Q5))),.imm (.sl (2:Nat) (List.map cellsL (Bk.L (Prod.fst Q5)))),.imm (.bools (Bk.S (Prod.fst Q5))),.imm (.bools (Bk.U (Prod.fst Q5)))])),(8,Ob.mk true 0 (AObj.cells [.imm (.bytes (Cu.d (Prod.snd Q5))),.imm (.int .i64 (Cu.p (Prod.snd Q5))),.imm (.int .i64 (Cu.e (Prod.snd Q5))),.imm (.int .i64 (Cu.a (Prod.snd Q5)))])),(9,Ob.mk false 0 (AObj.row (IV.bytes (List.set (List.map u8 [] ++ Q1) (20:Int).toNat (u8 (2:Int)))))),(10,Ob.mk true 0 (AObj.cells [.imm (.ints IntKind.i64 (Bk.T (Prod.fst
 Q6))),.imm (.bytes (Bk.I (Prod.fst Q6))),.imm (.sl (3:Nat) (List.map cellsT (Bk.X (Prod.fst Q6)))),.imm (.bytes (Bk.C (Prod.fst Q6))),.imm (.sl (2:Nat) (List.map cellsL (Bk.L (Prod.fst Q6)))),.imm (.bools (Bk.S (Prod.fst Q6))),.imm (.bools (Bk.U (Prod.fst Q6)))])),(11,Ob.mk true 0 (AObj.cells [.imm (.bytes (Cu.d (Prod.snd Q6))),.imm (.int .i64 (Cu.p (Prod.snd Q6))),.imm (.int .i64 (Cu.e (Prod.snd Q6))),.imm (.int .i64 (Cu.a (Prod.snd Q6)))])),(12,Ob.mk false 0 (AObj.row (IV.sl (3:Nat) [[IV.int IntKind.i32 (0:Int),IV.bool false,IV.int .u8 0]])))] (13:Nat) []))); let R1:Prop:=((okU (Cu.mk (List.take ((20:Int).toNat - 0) (List.drop (0:Nat) Q1)) (0:Int) (0:Int) (0:Int))∧okH (Hd.mk (Hd.v Q2) (Hd.iu Q2) (Hd.is Q2) (Hd.l Q2) (Hd.t Q2) (Hd.ty Q2) (Hd.c Q2))∧sz48 (4:Int)∧E2)∧okU (Cu.mk (List.take ((20:Int).toNat - 0) (List.drop (0:Nat) Q1)) (0:Int) (0:Int) (0:Int))∧okH (Hd.mk (Hd.v Q2) (Hd.iu Q2) (Hd.is Q2) (Hd.l Q2) (Hd.t Q2) (Hd.ty Q2) (Hd.c Q2))∧sz48 (4:Int)∧E2); let R2:Prop:=((okU (Cu.mk (List.set (List.map u8 [] ++ Q1) (20:Int).toNat (u8 (2:Int))) (0:Int) (0:Int) (0:Int))∧okH (Hd.mk (Hd.v Q2) (Hd.iu Q2)
 (Hd.is Q2) (Hd.l Q2) (Hd.t Q2) (Hd.ty Q2) (Hd.c Q2))∧sz48 (4:Int)∧E3)∧okU (Cu.mk (List.set (List.map u8 [] ++ Q1) (20:Int).toNat (u8 (2:Int))) (0:Int) (0:Int) (0:Int))∧okH (Hd.mk (Hd.v Q2) (Hd.iu Q2) (Hd.is Q2) (Hd.l Q2) (Hd.t Q2) (Hd.ty Q2) (Hd.c Q2))∧sz48 (4:Int)∧E3); let R3:Prop:=((okU (Cu.mk Q1 (0:Int) (0:Int) (0:Int))∧okH (Hd.mk (Hd.v Q2) (Hd.iu Q2) (Hd.is Q2) (Hd.l Q2) (Hd.t Q2) (Hd.ty Q2) (Hd.c Q2))∧sz48 (4:Int)∧E1)∧okU (Cu.mk Q1 (0:Int) (0:Int) (0:Int))∧okH (Hd.mk (Hd.v Q2) (Hd.iu Q2) (Hd.is Q2) (Hd.l Q2) (Hd.t Q2) (Hd.ty Q2) (Hd.c Q2))∧sz48 (4:Int)∧E1); let R4:Prop:=((0:Int)≤20∧(20:Int)≤(Q1.length:Int)∧R1∧okU (Cu.mk (List.take ((20:Int).toNat - 0) (List.drop (0:Nat) Q1)) (0:Int) (0:Int) (0:Int))∧okH (Hd.mk (Hd.v Q2) (Hd.iu Q2) (Hd.is Q2) (Hd.l Q2) (Hd.t Q2) (Hd.ty Q2) (Hd.c Q2))∧sz48 (4:Int)∧E2); (0:Int)≤1∧(1:Int)≤1∧(↑(8:Nat):Int) * 1≤140737488355328∧(1:Int)≤140737488355328∧Z19.okE [] [] (List.replicate (1:Int).toNat [IV.int IntKind.i32 (0:Int),IV.bool false,IV.int .u8 0]) (List.map u8 [(0:Int)]) [] [] []∧sz48 (8:Int)∧Z19.okE [(-1:Int)]
 (List.map u8 [(1:Int)]) [[IV.int IntKind.i32 (0:Int),IV.bool false,IV.int .u8 0],[IV.int IntKind.i32 (60:Int),IV.bool true,IV.int .u8 1]] (List.map u8 [(0:Int),(0:Int)]) [] [false,true] []∧sz48 (4:Int)∧brn ((Q1.length:Int) != 21) (K [.imm (.bool false)]) ((((okU (Cu.mk Q1 (0:Int) (0:Int) (0:Int))∧okH (Hd.mk (Hd.v Q2) (Hd.iu Q2) (Hd.is Q2) (Hd.l Q2) (Hd.t Q2) (Hd.ty Q2) (Hd.c Q2))∧sz48 (4:Int)∧E1∧E1)∧R3∧(okU (Cu.mk Q1 (0:Int) (0:Int) (0:Int))∧okH (Hd.mk (Hd.v Q2) (Hd.iu Q2) (Hd.is Q2) (Hd.l Q2) (Hd.t Q2) (Hd.ty Q2) (Hd.c Q2))∧sz48 (4:Int)∧E1)∧okU (Cu.mk Q1 (0:Int) (0:Int) (0:Int))∧okH (Hd.mk (Hd.v Q2) (Hd.iu Q2) (Hd.is Q2) (Hd.l Q2) (Hd.t Q2) (Hd.ty Q2) (Hd.c Q2))∧sz48 (4:Int)∧E1)∧(R3∧okU (Cu.mk Q1 (0:Int) (0:Int) (0:Int))∧okH (Hd.mk (Hd.v Q2) (Hd.iu Q2) (Hd.is Q2) (Hd.l Q2) (Hd.t Q2) (Hd.ty Q2) (Hd.c Q2))∧sz48 (4:Int)∧E1)∧R3∧okU (Cu.mk Q1 (0:Int) (0:Int) (0:Int))∧okH (Hd.mk (Hd.v Q2) (Hd.iu Q2) (Hd.is Q2) (Hd.l Q2) (Hd.t Q2) (Hd.ty Q2) (Hd.c Q2))∧sz48 (4:Int)∧E1)∧(((0:Int)≤20∧(20:Int)≤(Q1.length:Int)∧((okU (Cu.mk (List.take ((20:Int).toNat - 0) (List.drop
 (0:Nat) Q1)) (0:Int) (0:Int) (0:Int))∧okH (Hd.mk (Hd.v Q2) (Hd.iu Q2) (Hd.is Q2) (Hd.l Q2) (Hd.t Q2) (Hd.ty Q2) (Hd.c Q2))∧sz48 (4:Int)∧E2∧E2)∧R1∧(okU (Cu.mk (List.take ((20:Int).toNat - 0) (List.drop (0:Nat) Q1)) (0:Int) (0:Int) (0:Int))∧okH (Hd.mk (Hd.v Q2) (Hd.iu Q2) (Hd.is Q2) (Hd.l Q2) (Hd.t Q2) (Hd.ty Q2) (Hd.c Q2))∧sz48 (4:Int)∧E2)∧okU (Cu.mk (List.take ((20:Int).toNat - 0) (List.drop (0:Nat) Q1)) (0:Int) (0:Int) (0:Int))∧okH (Hd.mk (Hd.v Q2) (Hd.iu Q2) (Hd.is Q2) (Hd.l Q2) (Hd.t Q2) (Hd.ty Q2) (Hd.c Q2))∧sz48 (4:Int)∧E2)∧(R1∧okU (Cu.mk (List.take ((20:Int).toNat - 0) (List.drop (0:Nat) Q1)) (0:Int) (0:Int) (0:Int))∧okH (Hd.mk (Hd.v Q2) (Hd.iu Q2) (Hd.is Q2) (Hd.l Q2) (Hd.t Q2) (Hd.ty Q2) (Hd.c Q2))∧sz48 (4:Int)∧E2)∧R1∧okU (Cu.mk (List.take ((20:Int).toNat - 0) (List.drop (0:Nat) Q1)) (0:Int) (0:Int) (0:Int))∧okH (Hd.mk (Hd.v Q2) (Hd.iu Q2) (Hd.is Q2) (Hd.l Q2) (Hd.t Q2) (Hd.ty Q2) (Hd.c Q2))∧sz48 (4:Int)∧E2)∧(R4∧(0:Int)≤20∧(20:Int)≤(Q1.length:Int)∧okU (Cu.mk (List.take ((20:Int).toNat - 0) (List.drop (0:Nat) Q1)) (0:Int) (0:Int) (0:Int))∧okH
 (Hd.mk (Hd.v Q2) (Hd.iu Q2) (Hd.is Q2) (Hd.l Q2) (Hd.t Q2) (Hd.ty Q2) (Hd.c Q2))∧sz48 (4:Int)∧E2)∧R4∧(0:Int)≤20∧(20:Int)≤(Q1.length:Int)∧okU (Cu.mk (List.take ((20:Int).toNat - 0) (List.drop (0:Nat) Q1)) (0:Int) (0:Int) (0:Int))∧okH (Hd.mk (Hd.v Q2) (Hd.iu Q2) (Hd.is Q2) (Hd.l Q2) (Hd.t Q2) (Hd.ty Q2) (Hd.c Q2))∧sz48 (4:Int)∧E2)∧((List.map u8 []).length + List.length Q1) * 1≤140737488355328∧(List.map u8 []).length + List.length Q1≤140737488355328∧(0:Int)≤20∧(20:Int) < (↑(List.map u8 [] ++ Q1).length:Int)∧(((okU (Cu.mk (List.set (List.map u8 [] ++ Q1) (20:Int).toNat (u8 (2:Int))) (0:Int) (0:Int) (0:Int))∧okH (Hd.mk (Hd.v Q2) (Hd.iu Q2) (Hd.is Q2) (Hd.l Q2) (Hd.t Q2) (Hd.ty Q2) (Hd.c Q2))∧sz48 (4:Int)∧E3∧E3)∧R2∧(okU (Cu.mk (List.set (List.map u8 [] ++ Q1) (20:Int).toNat (u8 (2:Int))) (0:Int) (0:Int) (0:Int))∧okH (Hd.mk (Hd.v Q2) (Hd.iu Q2) (Hd.is Q2) (Hd.l Q2) (Hd.t Q2) (Hd.ty Q2) (Hd.c Q2))∧sz48 (4:Int)∧E3)∧okU (Cu.mk (List.set (List.map u8 [] ++ Q1) (20:Int).toNat (u8 (2:Int))) (0:Int) (0:Int) (0:Int))∧okH (Hd.mk (Hd.v Q2) (Hd.iu Q2) (Hd.is Q2) (Hd.l Q2) (Hd.t Q2)
 (Hd.ty Q2) (Hd.c Q2))∧sz48 (4:Int)∧E3)∧(R2∧okU (Cu.mk (List.set (List.map u8 [] ++ Q1) (20:Int).toNat (u8 (2:Int))) (0:Int) (0:Int) (0:Int))∧okH (Hd.mk (Hd.v Q2) (Hd.iu Q2) (Hd.is Q2) (Hd.l Q2) (Hd.t Q2) (Hd.ty Q2) (Hd.c Q2))∧sz48 (4:Int)∧E3)∧R2∧okU (Cu.mk (List.set (List.map u8 [] ++ Q1) (20:Int).toNat (u8 (2:Int))) (0:Int) (0:Int) (0:Int))∧okH (Hd.mk (Hd.v Q2) (Hd.iu Q2) (Hd.is Q2) (Hd.l Q2) (Hd.t Q2) (Hd.ty Q2) (Hd.c Q2))∧sz48 (4:Int)∧E3)∧(0:Int)≤7∧(7:Int)≤7∧(↑(1:Nat):Int) * 7≤140737488355328∧(7:Int)≤140737488355328∧(Q4.length:Int)≤big∧(↑(List.replicate (7:Int).toNat (0:UInt8)).length:Int)≤big∧(decide (Q4 = List.replicate (7:Int).toNat (0:UInt8)) = true→(0:Int)≤0)∧(decide (Q4 = List.replicate (7:Int).toNat (0:UInt8)) = true→(0:Int) < (Q1.length:Int))∧((decide (Q4 = List.replicate (7:Int).toNat (0:UInt8)) && (↑(UInt8.toNat (List.getD Q1 (0:Int).toNat (0:UInt8))):Int) == 255) = true→(0:Int)≤4)∧((decide (Q4 = List.replicate (7:Int).toNat (0:UInt8)) && (↑(UInt8.toNat (List.getD Q1 (0:Int).toNat (0:UInt8))):Int) == 255) = true→(4:Int) <
 (Q1.length:Int))∧((decide (Q4 = List.replicate (7:Int).toNat (0:UInt8)) && (↑(UInt8.toNat (List.getD Q1 (0:Int).toNat (0:UInt8))):Int) == 255 && (↑(UInt8.toNat (List.getD Q1 (4:Int).toNat (0:UInt8))):Int) == 1) = true→(0:Int)≤20)∧((decide (Q4 = List.replicate (7:Int).toNat (0:UInt8)) && (↑(UInt8.toNat (List.getD Q1 (0:Int).toNat (0:UInt8))):Int) == 255 && (↑(UInt8.toNat (List.getD Q1 (4:Int).toNat (0:UInt8))):Int) == 1) = true→(20:Int) < (Q1.length:Int))∧((decide (Q4 = List.replicate (7:Int).toNat (0:UInt8)) && (↑(UInt8.toNat (List.getD Q1 (0:Int).toNat (0:UInt8))):Int) == 255 && (↑(UInt8.toNat (List.getD Q1 (4:Int).toNat (0:UInt8))):Int) == 1 && (↑(UInt8.toNat (List.getD Q1 (20:Int).toNat (0:UInt8))):Int) == 1 && (Hd.v Q2 == 2 && (Hd.iu Q2 == 0 && (Hd.is Q2 == 2 && (Hd.l Q2 == 0 && (Hd.t Q2 == 1 && (Hd.ty Q2 == 2 && (Hd.c Q2 == 2 && true)))))))) = true→okB [(-1:Int)] (List.map u8 [(1:Int)]) [[IV.int IntKind.i32 (0:Int),IV.bool false,IV.int .u8 0],[IV.int IntKind.i32 (60:Int),IV.bool true,IV.int .u8 1]] (List.map u8 [(0:Int),(0:Int)]) [] [false,true] [])∧((decide (Q4 = List.replicate (7
 : Int).toNat (0:UInt8)) && (↑(UInt8.toNat (List.getD Q1 (0:Int).toNat (0:UInt8))):Int) == 255 && (↑(UInt8.toNat (List.getD Q1 (4:Int).toNat (0:UInt8))):Int) == 1 && (↑(UInt8.toNat (List.getD Q1 (20:Int).toNat (0:UInt8))):Int) == 1 && (Hd.v Q2 == 2 && (Hd.iu Q2 == 0 && (Hd.is Q2 == 2 && (Hd.l Q2 == 0 && (Hd.t Q2 == 1 && (Hd.ty Q2 == 2 && (Hd.c Q2 == 2 && true)))))))) = true→okB (Bk.T (Prod.fst Q3)) (Bk.I (Prod.fst Q3)) (List.map cellsT (Bk.X (Prod.fst Q3))) (Bk.C (Prod.fst Q3)) (List.map cellsL (Bk.L (Prod.fst Q3))) (Bk.S (Prod.fst Q3)) (Bk.U (Prod.fst Q3)))∧((decide (Q4 = List.replicate (7:Int).toNat (0:UInt8)) && (↑(UInt8.toNat (List.getD Q1 (0:Int).toNat (0:UInt8))):Int) == 255 && (↑(UInt8.toNat (List.getD Q1 (4:Int).toNat (0:UInt8))):Int) == 1 && (↑(UInt8.toNat (List.getD Q1 (20:Int).toNat (0:UInt8))):Int) == 1 && (Hd.v Q2 == 2 && (Hd.iu Q2 == 0 && (Hd.is Q2 == 2 && (Hd.l Q2 == 0 && (Hd.t Q2 == 1 && (Hd.ty Q2 == 2 && (Hd.c Q2 == 2 && true))))))) && sameK [(-1:Int)] (List.map u8 [(1:Int)]) [[IV.int IntKind.i32 (0:Int),IV.bool false,IV.int .u8 0],[IV.int IntKind.i32 (60:Int),IV.bool true,IV.int .u8 1]] (List.map u8 [(0 :
 Int),(0:Int)]) [] [false,true] [] (Bk.T (Prod.fst Q3)) (Bk.I (Prod.fst Q3)) (List.map cellsT (Bk.X (Prod.fst Q3))) (Bk.C (Prod.fst Q3)) (List.map cellsL (Bk.L (Prod.fst Q3))) (Bk.S (Prod.fst Q3)) (Bk.U (Prod.fst Q3)) && Cu.p (Prod.snd Q3) == 21 && Cu.e (Prod.snd Q3) == 0 && Cu.e (Prod.snd Q5) == 1 && Cu.a (Prod.snd Q5) == 20 && Cu.e (Prod.snd Q6) == 10 && Cu.a (Prod.snd Q6) == 7) = true→okB [(-1:Int)] (List.map u8 [(1:Int)]) [[IV.int IntKind.i32 (0:Int),IV.bool false,IV.int .u8 0],[IV.int IntKind.i32 (60:Int),IV.bool true,IV.int .u8 1]] (List.map u8 [(0:Int),(0:Int)]) [] [false,true] [])∧((decide (Q4 = List.replicate (7:Int).toNat (0:UInt8)) && (↑(UInt8.toNat (List.getD Q1 (0:Int).toNat (0:UInt8))):Int) == 255 && (↑(UInt8.toNat (List.getD Q1 (4:Int).toNat (0:UInt8))):Int) == 1 && (↑(UInt8.toNat (List.getD Q1 (20:Int).toNat (0:UInt8))):Int) == 1 && (Hd.v Q2 == 2 && (Hd.iu Q2 == 0 && (Hd.is Q2 == 2 && (Hd.l Q2 == 0 && (Hd.t Q2 == 1 && (Hd.ty Q2 == 2 && (Hd.c Q2 == 2 && true))))))) && sameK [(-1:Int)] (List.map u8 [(1:Int)]) [[IV.int IntKind.i32 (0:Int),IV.bool false,IV.int .u8 0],[IV.int IntKind.i32 (60:Int),IV.bool true,
 IV.int .u8 1]] (List.map u8 [(0:Int),(0:Int)]) [] [false,true] [] (Bk.T (Prod.fst Q3)) (Bk.I (Prod.fst Q3)) (List.map cellsT (Bk.X (Prod.fst Q3))) (Bk.C (Prod.fst Q3)) (List.map cellsL (Bk.L (Prod.fst Q3))) (Bk.S (Prod.fst Q3)) (Bk.U (Prod.fst Q3)) && Cu.p (Prod.snd Q3) == 21 && Cu.e (Prod.snd Q3) == 0 && Cu.e (Prod.snd Q5) == 1 && Cu.a (Prod.snd Q5) == 20 && Cu.e (Prod.snd Q6) == 10 && Cu.a (Prod.snd Q6) == 7) = true→okB (Bk.T (Prod.fst Q3)) (Bk.I (Prod.fst Q3)) (List.map cellsT (Bk.X (Prod.fst Q3))) (Bk.C (Prod.fst Q3)) (List.map cellsL (Bk.L (Prod.fst Q3))) (Bk.S (Prod.fst Q3)) (Bk.U (Prod.fst Q3)))∧((decide (Q4 = List.replicate (7:Int).toNat (0:UInt8)) && (↑(UInt8.toNat (List.getD Q1 (0:Int).toNat (0:UInt8))):Int) == 255 && (↑(UInt8.toNat (List.getD Q1 (4:Int).toNat (0:UInt8))):Int) == 1 && (↑(UInt8.toNat (List.getD Q1 (20:Int).toNat (0:UInt8))):Int) == 1 && (Hd.v Q2 == 2 && (Hd.iu Q2 == 0 && (Hd.is Q2 == 2 && (Hd.l Q2 == 0 && (Hd.t Q2 == 1 && (Hd.ty Q2 == 2 && (Hd.c Q2 == 2 && true))))))) && sameK [(-1:Int)] (List.map u8 [(1:Int)]) [[IV.int IntKind.i32 (0:Int),IV.bool false,IV.int .u8 0],[IV.int IntKind.i32 (60:Int),IV.bool true,
 IV.int .u8 1]] (List.map u8 [(0:Int),(0:Int)]) [] [false,true] [] (Bk.T (Prod.fst Q3)) (Bk.I (Prod.fst Q3)) (List.map cellsT (Bk.X (Prod.fst Q3))) (Bk.C (Prod.fst Q3)) (List.map cellsL (Bk.L (Prod.fst Q3))) (Bk.S (Prod.fst Q3)) (Bk.U (Prod.fst Q3)) && Cu.p (Prod.snd Q3) == 21 && Cu.e (Prod.snd Q3) == 0 && Cu.e (Prod.snd Q5) == 1 && Cu.a (Prod.snd Q5) == 20 && Cu.e (Prod.snd Q6) == 10 && Cu.a (Prod.snd Q6) == 7 && sameK [(-1:Int)] (List.map u8 [(1:Int)]) [[IV.int IntKind.i32 (0:Int),IV.bool false,IV.int .u8 0],[IV.int IntKind.i32 (60:Int),IV.bool true,IV.int .u8 1]] (List.map u8 [(0:Int),(0:Int)]) [] [false,true] [] (Bk.T (Prod.fst Q3)) (Bk.I (Prod.fst Q3)) (List.map cellsT (Bk.X (Prod.fst Q3))) (Bk.C (Prod.fst Q3)) (List.map cellsL (Bk.L (Prod.fst Q3))) (Bk.S (Prod.fst Q3)) (Bk.U (Prod.fst Q3))) = true→okB [(-1:Int)] (List.map u8 [(1:Int)]) [[IV.int IntKind.i32 (0:Int),IV.bool false,IV.int .u8 0],[IV.int IntKind.i32 (60:Int),IV.bool true,IV.int .u8 1]] (List.map u8 [(0:Int),(0:Int)]) [] [false,true] [])∧((decide (Q4 = List.replicate (7:Int).toNat (0:UInt8)) && (↑(UInt8.toNat (List.getD Q1 (0:Int).toNat (0:UInt8))):Int) == 255
 && (↑(UInt8.toNat (List.getD Q1 (4:Int).toNat (0:UInt8))):Int) == 1 && (↑(UInt8.toNat (List.getD Q1 (20:Int).toNat (0:UInt8))):Int) == 1 && (Hd.v Q2 == 2 && (Hd.iu Q2 == 0 && (Hd.is Q2 == 2 && (Hd.l Q2 == 0 && (Hd.t Q2 == 1 && (Hd.ty Q2 == 2 && (Hd.c Q2 == 2 && true))))))) && sameK [(-1:Int)] (List.map u8 [(1:Int)]) [[IV.int IntKind.i32 (0:Int),IV.bool false,IV.int .u8 0],[IV.int IntKind.i32 (60:Int),IV.bool true,IV.int .u8 1]] (List.map u8 [(0:Int),(0:Int)]) [] [false,true] [] (Bk.T (Prod.fst Q3)) (Bk.I (Prod.fst Q3)) (List.map cellsT (Bk.X (Prod.fst Q3))) (Bk.C (Prod.fst Q3)) (List.map cellsL (Bk.L (Prod.fst Q3))) (Bk.S (Prod.fst Q3)) (Bk.U (Prod.fst Q3)) && Cu.p (Prod.snd Q3) == 21 && Cu.e (Prod.snd Q3) == 0 && Cu.e (Prod.snd Q5) == 1 && Cu.a (Prod.snd Q5) == 20 && Cu.e (Prod.snd Q6) == 10 && Cu.a (Prod.snd Q6) == 7 && sameK [(-1:Int)] (List.map u8 [(1:Int)]) [[IV.int IntKind.i32 (0:Int),IV.bool false,IV.int .u8 0],[IV.int IntKind.i32 (60:Int),IV.bool true,IV.int .u8 1]] (List.map u8 [(0:Int),(0:Int)]) [] [false,true] [] (Bk.T (Prod.fst Q3)) (Bk.I (Prod.fst Q3)) (List.map cellsT (Bk.X (Prod.fst Q3))) (Bk.C (Prod.fst Q3)) (List.map
 cellsL (Bk.L (Prod.fst Q3))) (Bk.S (Prod.fst Q3)) (Bk.U (Prod.fst Q3))) = true→okB [] [] (List.replicate (1:Int).toNat [IV.int IntKind.i32 (0:Int),IV.bool false,IV.int .u8 0]) (List.map u8 [(0:Int)]) [] [] [])∧K [.imm (.bool (decide (Q4 = List.replicate (7:Int).toNat (0:UInt8)) && (↑(UInt8.toNat (List.getD Q1 (0:Int).toNat (0:UInt8))):Int) == 255 && (↑(UInt8.toNat (List.getD Q1 (4:Int).toNat (0:UInt8))):Int) == 1 && (↑(UInt8.toNat (List.getD Q1 (20:Int).toNat (0:UInt8))):Int) == 1 && (Hd.v Q2 == 2 && (Hd.iu Q2 == 0 && (Hd.is Q2 == 2 && (Hd.l Q2 == 0 && (Hd.t Q2 == 1 && (Hd.ty Q2 == 2 && (Hd.c Q2 == 2 && true))))))) && sameK [(-1:Int)] (List.map u8 [(1:Int)]) [[IV.int IntKind.i32 (0:Int),IV.bool false,IV.int .u8 0],[IV.int IntKind.i32 (60:Int),IV.bool true,IV.int .u8 1]] (List.map u8 [(0:Int),(0:Int)]) [] [false,true] [] (Bk.T (Prod.fst Q3)) (Bk.I (Prod.fst Q3)) (List.map cellsT (Bk.X (Prod.fst Q3))) (Bk.C (Prod.fst Q3)) (List.map cellsL (Bk.L (Prod.fst Q3))) (Bk.S (Prod.fst Q3)) (Bk.U (Prod.fst Q3)) && Cu.p (Prod.snd Q3) == 21 && Cu.e (Prod.snd Q3) == 0 && Cu.e (Prod.snd Q5) == 1 && Cu.a (Prod.snd Q5) == 20 && Cu.e (Prod.snd Q6)
 == 10 && Cu.a (Prod.snd Q6) == 7 && sameK [(-1:Int)] (List.map u8 [(1:Int)]) [[IV.int IntKind.i32 (0:Int),IV.bool false,IV.int .u8 0],[IV.int IntKind.i32 (60:Int),IV.bool true,IV.int .u8 1]] (List.map u8 [(0:Int),(0:Int)]) [] [false,true] [] (Bk.T (Prod.fst Q3)) (Bk.I (Prod.fst Q3)) (List.map cellsT (Bk.X (Prod.fst Q3))) (Bk.C (Prod.fst Q3)) (List.map cellsL (Bk.L (Prod.fst Q3))) (Bk.S (Prod.fst Q3)) (Bk.U (Prod.fst Q3)) && !sameK [(-1:Int)] (List.map u8 [(1:Int)]) [[IV.int IntKind.i32 (0:Int),IV.bool false,IV.int .u8 0],[IV.int IntKind.i32 (60:Int),IV.bool true,IV.int .u8 1]] (List.map u8 [(0:Int),(0:Int)]) [] [false,true] [] [] [] (List.replicate (1:Int).toNat [IV.int IntKind.i32 (0:Int),IV.bool false,IV.int .u8 0]) (List.map u8 [(0:Int)]) [] [] []))])):=by kernel_rfl
end Z19
set_option maxRecDepth 100000
namespace Z19
open Go Go.AE Go.Proofs D6
attribute [local irreducible] loopK evCode evSpec loopB norm
theorem f12_in (d:List UInt8) (p:Int) (e:Int) (a:Int) (v:Int) (iu:Int) (is:Int) (l:Int) (t:Int) (ty:Int) (c:Int) (s:Int) (at':Int) (K:List AV→Prop):evSpec K3i Tryd.f12 [curAV d p e a,hdAV v iu is l t ty c,i64 s,i64 at'] K = (let R1:Prop:=(brn (!decide (sumU (Hd.mk v iu is l t ty c) s≤IntKind.wrap IntKind.u64 (restU (Cu.mk d p e a)))) (K [.agg [AV.new (IV.ints IntKind.i64 []),AV.new (IV.bytes []),AV.new (IV.sl (3:Nat) []),AV.new (IV.bytes []),AV.new (IV.sl (2:Nat) []),AV.new (IV.bools []),AV.new (IV.bools [])],.agg [.imm (.bytes (Cu.d (failU (Cu.mk d p e a) (1:Int) (d.length:Int)))),.imm (.int .i64 (Cu.p (failU (Cu.mk d p e a) (1:Int) (d.length:Int)))),.imm (.int .i64 (Cu.e (failU (Cu.mk d p e a) (1:Int) (d.length:Int)))),.imm (.int .i64 (Cu.a (failU (Cu.mk d p e a) (1:Int) (d.length:Int))))]]) (okU (Cu.mk d p e a)∧okH (Hd.mk v iu is l t ty c)∧sz48 s∧(0:Int)≤o2 (Hd.mk v iu is l t ty c) s∧o2 (Hd.mk v iu is l t ty c) s≤o3 (Hd.mk v iu is l t ty c) s∧o3 (Hd.mk v iu is l t ty c) s≤o3 (Hd.mk v iu is l t ty c) s∧o3 (Hd.mk v iu is l t ty c) s≤(↑(takeU (Cu.mk d p e a) (IntKind.wrap .i64 (if sumU
 (Hd.mk v iu is l t ty c) s≤IntKind.wrap IntKind.u64 (restU (Cu.mk d p e a)) then sumU (Hd.mk v iu is l t ty c) s else (0:Int)))).length:Int)∧(↑(List.take ((o3 (Hd.mk v iu is l t ty c) s).toNat - (o2 (Hd.mk v iu is l t ty c) s).toNat) (List.drop (o2 (Hd.mk v iu is l t ty c) s).toNat (takeU (Cu.mk d p e a) (IntKind.wrap .i64 (if sumU (Hd.mk v iu is l t ty c) s≤IntKind.wrap IntKind.u64 (restU (Cu.mk d p e a)) then sumU (Hd.mk v iu is l t ty c) s else (0:Int)))))).length:Int)≤1000000000000∧(0:Int)≤o5 (Hd.mk v iu is l t ty c) s∧o5 (Hd.mk v iu is l t ty c) s≤o6 (Hd.mk v iu is l t ty c) s∧o6 (Hd.mk v iu is l t ty c) s≤o6 (Hd.mk v iu is l t ty c) s∧o6 (Hd.mk v iu is l t ty c) s≤(↑(takeU (Cu.mk d p e a) (IntKind.wrap .i64 (if sumU (Hd.mk v iu is l t ty c) s≤IntKind.wrap IntKind.u64 (restU (Cu.mk d p e a)) then sumU (Hd.mk v iu is l t ty c) s else (0:Int)))).length:Int)∧(↑(List.take ((o6 (Hd.mk v iu is l t ty c) s).toNat - (o5 (Hd.mk v iu is l t ty c) s).toNat) (List.drop (o5 (Hd.mk v iu is l t ty c) s).toNat (takeU (Cu.mk d p e a) (IntKind.wrap .i64 (if sumU (Hd.mk v iu is l t ty c) s≤IntKind.wrap IntKind.u64 (restU (Cu.mk d p e a)) then sumU
 (Hd.mk v iu is l t ty c) s else (0:Int)))))).length:Int)≤big'∧(0:Int)≤o6 (Hd.mk v iu is l t ty c) s∧o6 (Hd.mk v iu is l t ty c) s≤o7 (Hd.mk v iu is l t ty c) s∧o7 (Hd.mk v iu is l t ty c) s≤o7 (Hd.mk v iu is l t ty c) s∧o7 (Hd.mk v iu is l t ty c) s≤(↑(takeU (Cu.mk d p e a) (IntKind.wrap .i64 (if sumU (Hd.mk v iu is l t ty c) s≤IntKind.wrap IntKind.u64 (restU (Cu.mk d p e a)) then sumU (Hd.mk v iu is l t ty c) s else (0:Int)))).length:Int)∧(↑(List.take ((o7 (Hd.mk v iu is l t ty c) s).toNat - (o6 (Hd.mk v iu is l t ty c) s).toNat) (List.drop (o6 (Hd.mk v iu is l t ty c) s).toNat (takeU (Cu.mk d p e a) (IntKind.wrap .i64 (if sumU (Hd.mk v iu is l t ty c) s≤IntKind.wrap IntKind.u64 (restU (Cu.mk d p e a)) then sumU (Hd.mk v iu is l t ty c) s else (0:Int)))))).length:Int)≤big'∧brn (!decOk (List.take ((o3 (Hd.mk v iu is l t ty c) s).toNat - (o2 (Hd.mk v iu is l t ty c) s).toNat) (List.drop (o2 (Hd.mk v iu is l t ty c) s).toNat (takeU (Cu.mk d p e a) (IntKind.wrap .i64 (if sumU (Hd.mk v iu is l t ty c) s≤IntKind.wrap IntKind.u64 (restU (Cu.mk d p e a)) then sumU (Hd.mk v iu is l t ty c) s else (0:Int)))))) || !indOk (List.take ((o6 (Hd.mk v
 iu is l t ty c) s).toNat - (o5 (Hd.mk v iu is l t ty c) s).toNat) (List.drop (o5 (Hd.mk v iu is l t ty c) s).toNat (takeU (Cu.mk d p e a) (IntKind.wrap .i64 (if sumU (Hd.mk v iu is l t ty c) s≤IntKind.wrap IntKind.u64 (restU (Cu.mk d p e a)) then sumU (Hd.mk v iu is l t ty c) s else (0:Int)))))) || !indOk (List.take ((o7 (Hd.mk v iu is l t ty c) s).toNat - (o6 (Hd.mk v iu is l t ty c) s).toNat) (List.drop (o6 (Hd.mk v iu is l t ty c) s).toNat (takeU (Cu.mk d p e a) (IntKind.wrap .i64 (if sumU (Hd.mk v iu is l t ty c) s≤IntKind.wrap IntKind.u64 (restU (Cu.mk d p e a)) then sumU (Hd.mk v iu is l t ty c) s else (0:Int))))))) (K [.agg [AV.new (IV.ints IntKind.i64 []),AV.new (IV.bytes []),AV.new (IV.sl (3:Nat) []),AV.new (IV.bytes []),AV.new (IV.sl (2:Nat) []),AV.new (IV.bools []),AV.new (IV.bools [])],.agg [.imm (.bytes (Cu.d (failU (Cu.mk (Cu.d (advU (Cu.mk d p e a) (IntKind.wrap .i64 (if sumU (Hd.mk v iu is l t ty c) s≤IntKind.wrap IntKind.u64 (restU (Cu.mk d p e a)) then sumU (Hd.mk v iu is l t ty c) s else (0:Int))))) (Cu.p (advU (Cu.mk d p e a) (IntKind.wrap .i64 (if sumU (Hd.mk v iu is l t ty c) s≤IntKind.wrap IntKind.u64 (restU (Cu.mk d p e a)) then sumU
 (Hd.mk v iu is l t ty c) s else (0:Int))))) (Cu.e (advU (Cu.mk d p e a) (IntKind.wrap .i64 (if sumU (Hd.mk v iu is l t ty c) s≤IntKind.wrap IntKind.u64 (restU (Cu.mk d p e a)) then sumU (Hd.mk v iu is l t ty c) s else (0:Int))))) (Cu.a (advU (Cu.mk d p e a) (IntKind.wrap .i64 (if sumU (Hd.mk v iu is l t ty c) s≤IntKind.wrap IntKind.u64 (restU (Cu.mk d p e a)) then sumU (Hd.mk v iu is l t ty c) s else (0:Int)))))) (10:Int) at'))),.imm (.int .i64 (Cu.p (failU (Cu.mk (Cu.d (advU (Cu.mk d p e a) (IntKind.wrap .i64 (if sumU (Hd.mk v iu is l t ty c) s≤IntKind.wrap IntKind.u64 (restU (Cu.mk d p e a)) then sumU (Hd.mk v iu is l t ty c) s else (0:Int))))) (Cu.p (advU (Cu.mk d p e a) (IntKind.wrap .i64 (if sumU (Hd.mk v iu is l t ty c) s≤IntKind.wrap IntKind.u64 (restU (Cu.mk d p e a)) then sumU (Hd.mk v iu is l t ty c) s else (0:Int))))) (Cu.e (advU (Cu.mk d p e a) (IntKind.wrap .i64 (if sumU (Hd.mk v iu is l t ty c) s≤IntKind.wrap IntKind.u64 (restU (Cu.mk d p e a)) then sumU (Hd.mk v iu is l t ty c) s else (0:Int))))) (Cu.a (advU (Cu.mk d p e a) (IntKind.wrap .i64 (if sumU (Hd.mk v iu is l t ty c) s≤IntKind.wrap IntKind.u64 (restU (Cu.mk d p e a)) then sumU
 (Hd.mk v iu is l t ty c) s else (0:Int)))))) (10:Int) at'))),.imm (.int .i64 (Cu.e (failU (Cu.mk (Cu.d (advU (Cu.mk d p e a) (IntKind.wrap .i64 (if sumU (Hd.mk v iu is l t ty c) s≤IntKind.wrap IntKind.u64 (restU (Cu.mk d p e a)) then sumU (Hd.mk v iu is l t ty c) s else (0:Int))))) (Cu.p (advU (Cu.mk d p e a) (IntKind.wrap .i64 (if sumU (Hd.mk v iu is l t ty c) s≤IntKind.wrap IntKind.u64 (restU (Cu.mk d p e a)) then sumU (Hd.mk v iu is l t ty c) s else (0:Int))))) (Cu.e (advU (Cu.mk d p e a) (IntKind.wrap .i64 (if sumU (Hd.mk v iu is l t ty c) s≤IntKind.wrap IntKind.u64 (restU (Cu.mk d p e a)) then sumU (Hd.mk v iu is l t ty c) s else (0:Int))))) (Cu.a (advU (Cu.mk d p e a) (IntKind.wrap .i64 (if sumU (Hd.mk v iu is l t ty c) s≤IntKind.wrap IntKind.u64 (restU (Cu.mk d p e a)) then sumU (Hd.mk v iu is l t ty c) s else (0:Int)))))) (10:Int) at'))),.imm (.int .i64 (Cu.a (failU (Cu.mk (Cu.d (advU (Cu.mk d p e a) (IntKind.wrap .i64 (if sumU (Hd.mk v iu is l t ty c) s≤IntKind.wrap IntKind.u64 (restU (Cu.mk d p e a)) then sumU (Hd.mk v iu is l t ty c) s else (0:Int))))) (Cu.p (advU (Cu.mk d p e a) (IntKind.wrap .i64 (if sumU (Hd.mk v iu is l t ty c) s ≤
 IntKind.wrap IntKind.u64 (restU (Cu.mk d p e a)) then sumU (Hd.mk v iu is l t ty c) s else (0:Int))))) (Cu.e (advU (Cu.mk d p e a) (IntKind.wrap .i64 (if sumU (Hd.mk v iu is l t ty c) s≤IntKind.wrap IntKind.u64 (restU (Cu.mk d p e a)) then sumU (Hd.mk v iu is l t ty c) s else (0:Int))))) (Cu.a (advU (Cu.mk d p e a) (IntKind.wrap .i64 (if sumU (Hd.mk v iu is l t ty c) s≤IntKind.wrap IntKind.u64 (restU (Cu.mk d p e a)) then sumU (Hd.mk v iu is l t ty c) s else (0:Int)))))) (10:Int) at')))]]) (((0:Int)≤0∧(0:Int)≤o1 (Hd.mk v iu is l t ty c) s∧o1 (Hd.mk v iu is l t ty c) s≤o1 (Hd.mk v iu is l t ty c) s∧o1 (Hd.mk v iu is l t ty c) s≤(↑(takeU (Cu.mk d p e a) (IntKind.wrap .i64 (if sumU (Hd.mk v iu is l t ty c) s≤IntKind.wrap IntKind.u64 (restU (Cu.mk d p e a)) then sumU (Hd.mk v iu is l t ty c) s else (0:Int)))).length:Int)∧(sz48 s∧(↑(List.take ((o1 (Hd.mk v iu is l t ty c) s).toNat - (0:Int).toNat) (List.drop (0:Int).toNat (takeU (Cu.mk d p e a) (IntKind.wrap .i64 (if sumU (Hd.mk v iu is l t ty c) s≤IntKind.wrap IntKind.u64 (restU (Cu.mk d p e a)) then sumU (Hd.mk v iu is l t ty c) s else (0:Int)))))).length:Int)≤big'∧((0:Int)≤o1
 (Hd.mk v iu is l t ty c) s∧o1 (Hd.mk v iu is l t ty c) s≤o2 (Hd.mk v iu is l t ty c) s∧o2 (Hd.mk v iu is l t ty c) s≤o2 (Hd.mk v iu is l t ty c) s∧o2 (Hd.mk v iu is l t ty c) s≤(↑(takeU (Cu.mk d p e a) (IntKind.wrap .i64 (if sumU (Hd.mk v iu is l t ty c) s≤IntKind.wrap IntKind.u64 (restU (Cu.mk d p e a)) then sumU (Hd.mk v iu is l t ty c) s else (0:Int)))).length:Int)∧((0:Int)≤o3 (Hd.mk v iu is l t ty c) s∧o3 (Hd.mk v iu is l t ty c) s≤o4 (Hd.mk v iu is l t ty c) s∧o4 (Hd.mk v iu is l t ty c) s≤o4 (Hd.mk v iu is l t ty c) s∧o4 (Hd.mk v iu is l t ty c) s≤(↑(takeU (Cu.mk d p e a) (IntKind.wrap .i64 (if sumU (Hd.mk v iu is l t ty c) s≤IntKind.wrap IntKind.u64 (restU (Cu.mk d p e a)) then sumU (Hd.mk v iu is l t ty c) s else (0:Int)))).length:Int)∧((0:Int)≤o4 (Hd.mk v iu is l t ty c) s∧o4 (Hd.mk v iu is l t ty c) s≤o5 (Hd.mk v iu is l t ty c) s∧o5 (Hd.mk v iu is l t ty c) s≤o5 (Hd.mk v iu is l t ty c) s∧o5 (Hd.mk v iu is l t ty c) s≤(↑(takeU (Cu.mk d p e a) (IntKind.wrap .i64 (if sumU (Hd.mk v iu is l t ty c) s≤IntKind.wrap IntKind.u64 (restU (Cu.mk d p e a)) then sumU (Hd.mk v iu is l t ty c) s else (0:Int)))).length :
 Int)∧(sz48 s∧(↑(List.take ((o5 (Hd.mk v iu is l t ty c) s).toNat - (o4 (Hd.mk v iu is l t ty c) s).toNat) (List.drop (o4 (Hd.mk v iu is l t ty c) s).toNat (takeU (Cu.mk d p e a) (IntKind.wrap .i64 (if sumU (Hd.mk v iu is l t ty c) s≤IntKind.wrap IntKind.u64 (restU (Cu.mk d p e a)) then sumU (Hd.mk v iu is l t ty c) s else (0:Int)))))).length:Int)≤big'∧(K [.agg [AV.new (IV.ints IntKind.i64 (decI (List.take ((o1 (Hd.mk v iu is l t ty c) s).toNat - (0:Int).toNat) (List.drop (0:Int).toNat (takeU (Cu.mk d p e a) (IntKind.wrap .i64 (if sumU (Hd.mk v iu is l t ty c) s≤IntKind.wrap IntKind.u64 (restU (Cu.mk d p e a)) then sumU (Hd.mk v iu is l t ty c) s else (0:Int)))))) s.toNat ((List.take ((o1 (Hd.mk v iu is l t ty c) s).toNat - (0:Int).toNat) (List.drop (0:Int).toNat (takeU (Cu.mk d p e a) (IntKind.wrap .i64 (if sumU (Hd.mk v iu is l t ty c) s≤IntKind.wrap IntKind.u64 (restU (Cu.mk d p e a)) then sumU (Hd.mk v iu is l t ty c) s else (0:Int)))))).length / s.toNat))),.imm (.bytes (List.take ((o2 (Hd.mk v iu is l t ty c) s).toNat - (o1 (Hd.mk v iu is l t ty c) s).toNat) (List.drop (o1 (Hd.mk v iu is l t ty c) s).toNat (takeU (Cu.mk d p e a) (IntKind.wrap .i64
 (if sumU (Hd.mk v iu is l t ty c) s≤IntKind.wrap IntKind.u64 (restU (Cu.mk d p e a)) then sumU (Hd.mk v iu is l t ty c) s else (0:Int))))))),AV.new (IV.sl (3:Nat) (List.map cellsT (dec (List.take ((o3 (Hd.mk v iu is l t ty c) s).toNat - (o2 (Hd.mk v iu is l t ty c) s).toNat) (List.drop (o2 (Hd.mk v iu is l t ty c) s).toNat (takeU (Cu.mk d p e a) (IntKind.wrap .i64 (if sumU (Hd.mk v iu is l t ty c) s≤IntKind.wrap IntKind.u64 (restU (Cu.mk d p e a)) then sumU (Hd.mk v iu is l t ty c) s else (0:Int))))))))),.imm (.bytes (List.take ((o4 (Hd.mk v iu is l t ty c) s).toNat - (o3 (Hd.mk v iu is l t ty c) s).toNat) (List.drop (o3 (Hd.mk v iu is l t ty c) s).toNat (takeU (Cu.mk d p e a) (IntKind.wrap .i64 (if sumU (Hd.mk v iu is l t ty c) s≤IntKind.wrap IntKind.u64 (restU (Cu.mk d p e a)) then sumU (Hd.mk v iu is l t ty c) s else (0:Int))))))),AV.new (IV.sl (2:Nat) (List.map cellsL (decL (List.take ((o5 (Hd.mk v iu is l t ty c) s).toNat - (o4 (Hd.mk v iu is l t ty c) s).toNat) (List.drop (o4 (Hd.mk v iu is l t ty c) s).toNat (takeU (Cu.mk d p e a) (IntKind.wrap .i64 (if sumU (Hd.mk v iu is l t ty c) s≤IntKind.wrap IntKind.u64 (restU (Cu.mk d p e a)) then sumU (Hd.mk v iu
 is l t ty c) s else (0:Int)))))) s.toNat ((List.take ((o5 (Hd.mk v iu is l t ty c) s).toNat - (o4 (Hd.mk v iu is l t ty c) s).toNat) (List.drop (o4 (Hd.mk v iu is l t ty c) s).toNat (takeU (Cu.mk d p e a) (IntKind.wrap .i64 (if sumU (Hd.mk v iu is l t ty c) s≤IntKind.wrap IntKind.u64 (restU (Cu.mk d p e a)) then sumU (Hd.mk v iu is l t ty c) s else (0:Int)))))).length / (s.toNat + 4))))),AV.new (IV.bools (decO (List.take ((o6 (Hd.mk v iu is l t ty c) s).toNat - (o5 (Hd.mk v iu is l t ty c) s).toNat) (List.drop (o5 (Hd.mk v iu is l t ty c) s).toNat (takeU (Cu.mk d p e a) (IntKind.wrap .i64 (if sumU (Hd.mk v iu is l t ty c) s≤IntKind.wrap IntKind.u64 (restU (Cu.mk d p e a)) then sumU (Hd.mk v iu is l t ty c) s else (0:Int)))))))),AV.new (IV.bools (decO (List.take ((o7 (Hd.mk v iu is l t ty c) s).toNat - (o6 (Hd.mk v iu is l t ty c) s).toNat) (List.drop (o6 (Hd.mk v iu is l t ty c) s).toNat (takeU (Cu.mk d p e a) (IntKind.wrap .i64 (if sumU (Hd.mk v iu is l t ty c) s≤IntKind.wrap IntKind.u64 (restU (Cu.mk d p e a)) then sumU (Hd.mk v iu is l t ty c) s else (0:Int))))))))],.agg [.imm (.bytes (Cu.d (advU (Cu.mk d p e a) (IntKind.wrap .i64 (if sumU (Hd.mk v iu is l t ty
 c) s≤IntKind.wrap IntKind.u64 (restU (Cu.mk d p e a)) then sumU (Hd.mk v iu is l t ty c) s else (0:Int)))))),.imm (.int .i64 (Cu.p (advU (Cu.mk d p e a) (IntKind.wrap .i64 (if sumU (Hd.mk v iu is l t ty c) s≤IntKind.wrap IntKind.u64 (restU (Cu.mk d p e a)) then sumU (Hd.mk v iu is l t ty c) s else (0:Int)))))),.imm (.int .i64 (Cu.e (advU (Cu.mk d p e a) (IntKind.wrap .i64 (if sumU (Hd.mk v iu is l t ty c) s≤IntKind.wrap IntKind.u64 (restU (Cu.mk d p e a)) then sumU (Hd.mk v iu is l t ty c) s else (0:Int)))))),.imm (.int .i64 (Cu.a (advU (Cu.mk d p e a) (IntKind.wrap .i64 (if sumU (Hd.mk v iu is l t ty c) s≤IntKind.wrap IntKind.u64 (restU (Cu.mk d p e a)) then sumU (Hd.mk v iu is l t ty c) s else (0:Int))))))]]∧K [.agg [AV.new (IV.ints IntKind.i64 (decI (List.take ((o1 (Hd.mk v iu is l t ty c) s).toNat - (0:Int).toNat) (List.drop (0:Int).toNat (takeU (Cu.mk d p e a) (IntKind.wrap .i64 (if sumU (Hd.mk v iu is l t ty c) s≤IntKind.wrap IntKind.u64 (restU (Cu.mk d p e a)) then sumU (Hd.mk v iu is l t ty c) s else (0:Int)))))) s.toNat ((List.take ((o1 (Hd.mk v iu is l t ty c) s).toNat - (0:Int).toNat) (List.drop (0:Int).toNat (takeU (Cu.mk d p e a)
 (IntKind.wrap .i64 (if sumU (Hd.mk v iu is l t ty c) s≤IntKind.wrap IntKind.u64 (restU (Cu.mk d p e a)) then sumU (Hd.mk v iu is l t ty c) s else (0:Int)))))).length / s.toNat))),.imm (.bytes (List.take ((o2 (Hd.mk v iu is l t ty c) s).toNat - (o1 (Hd.mk v iu is l t ty c) s).toNat) (List.drop (o1 (Hd.mk v iu is l t ty c) s).toNat (takeU (Cu.mk d p e a) (IntKind.wrap .i64 (if sumU (Hd.mk v iu is l t ty c) s≤IntKind.wrap IntKind.u64 (restU (Cu.mk d p e a)) then sumU (Hd.mk v iu is l t ty c) s else (0:Int))))))),AV.new (IV.sl (3:Nat) (List.map cellsT (dec (List.take ((o3 (Hd.mk v iu is l t ty c) s).toNat - (o2 (Hd.mk v iu is l t ty c) s).toNat) (List.drop (o2 (Hd.mk v iu is l t ty c) s).toNat (takeU (Cu.mk d p e a) (IntKind.wrap .i64 (if sumU (Hd.mk v iu is l t ty c) s≤IntKind.wrap IntKind.u64 (restU (Cu.mk d p e a)) then sumU (Hd.mk v iu is l t ty c) s else (0:Int))))))))),.imm (.bytes (List.take ((o4 (Hd.mk v iu is l t ty c) s).toNat - (o3 (Hd.mk v iu is l t ty c) s).toNat) (List.drop (o3 (Hd.mk v iu is l t ty c) s).toNat (takeU (Cu.mk d p e a) (IntKind.wrap .i64 (if sumU (Hd.mk v iu is l t ty c) s≤IntKind.wrap IntKind.u64 (restU (Cu.mk d p e a)) then sumU (Hd.mk v
 iu is l t ty c) s else (0:Int))))))),AV.new (IV.sl (2:Nat) (List.map cellsL (decL (List.take ((o5 (Hd.mk v iu is l t ty c) s).toNat - (o4 (Hd.mk v iu is l t ty c) s).toNat) (List.drop (o4 (Hd.mk v iu is l t ty c) s).toNat (takeU (Cu.mk d p e a) (IntKind.wrap .i64 (if sumU (Hd.mk v iu is l t ty c) s≤IntKind.wrap IntKind.u64 (restU (Cu.mk d p e a)) then sumU (Hd.mk v iu is l t ty c) s else (0:Int)))))) s.toNat ((List.take ((o5 (Hd.mk v iu is l t ty c) s).toNat - (o4 (Hd.mk v iu is l t ty c) s).toNat) (List.drop (o4 (Hd.mk v iu is l t ty c) s).toNat (takeU (Cu.mk d p e a) (IntKind.wrap .i64 (if sumU (Hd.mk v iu is l t ty c) s≤IntKind.wrap IntKind.u64 (restU (Cu.mk d p e a)) then sumU (Hd.mk v iu is l t ty c) s else (0:Int)))))).length / (s.toNat + 4))))),AV.new (IV.bools (decO (List.take ((o6 (Hd.mk v iu is l t ty c) s).toNat - (o5 (Hd.mk v iu is l t ty c) s).toNat) (List.drop (o5 (Hd.mk v iu is l t ty c) s).toNat (takeU (Cu.mk d p e a) (IntKind.wrap .i64 (if sumU (Hd.mk v iu is l t ty c) s≤IntKind.wrap IntKind.u64 (restU (Cu.mk d p e a)) then sumU (Hd.mk v iu is l t ty c) s else (0:Int)))))))),AV.new (IV.bools (decO (List.take ((o7 (Hd.mk v iu is l t ty c) s).toNat
 - (o6 (Hd.mk v iu is l t ty c) s).toNat) (List.drop (o6 (Hd.mk v iu is l t ty c) s).toNat (takeU (Cu.mk d p e a) (IntKind.wrap .i64 (if sumU (Hd.mk v iu is l t ty c) s≤IntKind.wrap IntKind.u64 (restU (Cu.mk d p e a)) then sumU (Hd.mk v iu is l t ty c) s else (0:Int))))))))],.agg [.imm (.bytes (Cu.d (advU (Cu.mk d p e a) (IntKind.wrap .i64 (if sumU (Hd.mk v iu is l t ty c) s≤IntKind.wrap IntKind.u64 (restU (Cu.mk d p e a)) then sumU (Hd.mk v iu is l t ty c) s else (0:Int)))))),.imm (.int .i64 (Cu.p (advU (Cu.mk d p e a) (IntKind.wrap .i64 (if sumU (Hd.mk v iu is l t ty c) s≤IntKind.wrap IntKind.u64 (restU (Cu.mk d p e a)) then sumU (Hd.mk v iu is l t ty c) s else (0:Int)))))),.imm (.int .i64 (Cu.e (advU (Cu.mk d p e a) (IntKind.wrap .i64 (if sumU (Hd.mk v iu is l t ty c) s≤IntKind.wrap IntKind.u64 (restU (Cu.mk d p e a)) then sumU (Hd.mk v iu is l t ty c) s else (0:Int)))))),.imm (.int .i64 (Cu.a (advU (Cu.mk d p e a) (IntKind.wrap .i64 (if sumU (Hd.mk v iu is l t ty c) s≤IntKind.wrap IntKind.u64 (restU (Cu.mk d p e a)) then sumU (Hd.mk v iu is l t ty c) s else (0:Int))))))]])∧K [.agg [AV.new (IV.ints IntKind.i64 (decI (List.take ((o1 (Hd.mk v iu is l t ty
 c) s).toNat - (0:Int).toNat) (List.drop (0:Int).toNat (takeU (Cu.mk d p e a) (IntKind.wrap .i64 (if sumU (Hd.mk v iu is l t ty c) s≤IntKind.wrap IntKind.u64 (restU (Cu.mk d p e a)) then sumU (Hd.mk v iu is l t ty c) s else (0:Int)))))) s.toNat ((List.take ((o1 (Hd.mk v iu is l t ty c) s).toNat - (0:Int).toNat) (List.drop (0:Int).toNat (takeU (Cu.mk d p e a) (IntKind.wrap .i64 (if sumU (Hd.mk v iu is l t ty c) s≤IntKind.wrap IntKind.u64 (restU (Cu.mk d p e a)) then sumU (Hd.mk v iu is l t ty c) s else (0:Int)))))).length / s.toNat))),.imm (.bytes (List.take ((o2 (Hd.mk v iu is l t ty c) s).toNat - (o1 (Hd.mk v iu is l t ty c) s).toNat) (List.drop (o1 (Hd.mk v iu is l t ty c) s).toNat (takeU (Cu.mk d p e a) (IntKind.wrap .i64 (if sumU (Hd.mk v iu is l t ty c) s≤IntKind.wrap IntKind.u64 (restU (Cu.mk d p e a)) then sumU (Hd.mk v iu is l t ty c) s else (0:Int))))))),AV.new (IV.sl (3:Nat) (List.map cellsT (dec (List.take ((o3 (Hd.mk v iu is l t ty c) s).toNat - (o2 (Hd.mk v iu is l t ty c) s).toNat) (List.drop (o2 (Hd.mk v iu is l t ty c) s).toNat (takeU (Cu.mk d p e a) (IntKind.wrap .i64 (if sumU (Hd.mk v iu is l t ty c) s≤IntKind.wrap IntKind.u64 (restU (Cu.mk
 d p e a)) then sumU (Hd.mk v iu is l t ty c) s else (0:Int))))))))),.imm (.bytes (List.take ((o4 (Hd.mk v iu is l t ty c) s).toNat - (o3 (Hd.mk v iu is l t ty c) s).toNat) (List.drop (o3 (Hd.mk v iu is l t ty c) s).toNat (takeU (Cu.mk d p e a) (IntKind.wrap .i64 (if sumU (Hd.mk v iu is l t ty c) s≤IntKind.wrap IntKind.u64 (restU (Cu.mk d p e a)) then sumU (Hd.mk v iu is l t ty c) s else (0:Int))))))),AV.new (IV.sl (2:Nat) (List.map cellsL (decL (List.take ((o5 (Hd.mk v iu is l t ty c) s).toNat - (o4 (Hd.mk v iu is l t ty c) s).toNat) (List.drop (o4 (Hd.mk v iu is l t ty c) s).toNat (takeU (Cu.mk d p e a) (IntKind.wrap .i64 (if sumU (Hd.mk v iu is l t ty c) s≤IntKind.wrap IntKind.u64 (restU (Cu.mk d p e a)) then sumU (Hd.mk v iu is l t ty c) s else (0:Int)))))) s.toNat ((List.take ((o5 (Hd.mk v iu is l t ty c) s).toNat - (o4 (Hd.mk v iu is l t ty c) s).toNat) (List.drop (o4 (Hd.mk v iu is l t ty c) s).toNat (takeU (Cu.mk d p e a) (IntKind.wrap .i64 (if sumU (Hd.mk v iu is l t ty c) s≤IntKind.wrap IntKind.u64 (restU (Cu.mk d p e a)) then sumU (Hd.mk v iu is l t ty c) s else (0:Int)))))).length / (s.toNat + 4))))),AV.new (IV.bools (decO (List.take ((o6 (Hd.mk v iu is
 l t ty c) s).toNat - (o5 (Hd.mk v iu is l t ty c) s).toNat) (List.drop (o5 (Hd.mk v iu is l t ty c) s).toNat (takeU (Cu.mk d p e a) (IntKind.wrap .i64 (if sumU (Hd.mk v iu is l t ty c) s≤IntKind.wrap IntKind.u64 (restU (Cu.mk d p e a)) then sumU (Hd.mk v iu is l t ty c) s else (0:Int)))))))),AV.new (IV.bools (decO (List.take ((o7 (Hd.mk v iu is l t ty c) s).toNat - (o6 (Hd.mk v iu is l t ty c) s).toNat) (List.drop (o6 (Hd.mk v iu is l t ty c) s).toNat (takeU (Cu.mk d p e a) (IntKind.wrap .i64 (if sumU (Hd.mk v iu is l t ty c) s≤IntKind.wrap IntKind.u64 (restU (Cu.mk d p e a)) then sumU (Hd.mk v iu is l t ty c) s else (0:Int))))))))],.agg [.imm (.bytes (Cu.d (advU (Cu.mk d p e a) (IntKind.wrap .i64 (if sumU (Hd.mk v iu is l t ty c) s≤IntKind.wrap IntKind.u64 (restU (Cu.mk d p e a)) then sumU (Hd.mk v iu is l t ty c) s else (0:Int)))))),.imm (.int .i64 (Cu.p (advU (Cu.mk d p e a) (IntKind.wrap .i64 (if sumU (Hd.mk v iu is l t ty c) s≤IntKind.wrap IntKind.u64 (restU (Cu.mk d p e a)) then sumU (Hd.mk v iu is l t ty c) s else (0:Int)))))),.imm (.int .i64 (Cu.e (advU (Cu.mk d p e a) (IntKind.wrap .i64 (if sumU (Hd.mk v iu is l t ty c) s≤IntKind.wrap IntKind.u64
 (restU (Cu.mk d p e a)) then sumU (Hd.mk v iu is l t ty c) s else (0:Int)))))),.imm (.int .i64 (Cu.a (advU (Cu.mk d p e a) (IntKind.wrap .i64 (if sumU (Hd.mk v iu is l t ty c) s≤IntKind.wrap IntKind.u64 (restU (Cu.mk d p e a)) then sumU (Hd.mk v iu is l t ty c) s else (0:Int))))))]])∧sz48 s∧(↑(List.take ((o5 (Hd.mk v iu is l t ty c) s).toNat - (o4 (Hd.mk v iu is l t ty c) s).toNat) (List.drop (o4 (Hd.mk v iu is l t ty c) s).toNat (takeU (Cu.mk d p e a) (IntKind.wrap .i64 (if sumU (Hd.mk v iu is l t ty c) s≤IntKind.wrap IntKind.u64 (restU (Cu.mk d p e a)) then sumU (Hd.mk v iu is l t ty c) s else (0:Int)))))).length:Int)≤big'∧K [.agg [AV.new (IV.ints IntKind.i64 (decI (List.take ((o1 (Hd.mk v iu is l t ty c) s).toNat - (0:Int).toNat) (List.drop (0:Int).toNat (takeU (Cu.mk d p e a) (IntKind.wrap .i64 (if sumU (Hd.mk v iu is l t ty c) s≤IntKind.wrap IntKind.u64 (restU (Cu.mk d p e a)) then sumU (Hd.mk v iu is l t ty c) s else (0:Int)))))) s.toNat ((List.take ((o1 (Hd.mk v iu is l t ty c) s).toNat - (0:Int).toNat) (List.drop (0:Int).toNat (takeU (Cu.mk d p e a) (IntKind.wrap .i64 (if sumU (Hd.mk v iu is l t ty c) s≤IntKind.wrap IntKind.u64 (restU
 (Cu.mk d p e a)) then sumU (Hd.mk v iu is l t ty c) s else (0:Int)))))).length / s.toNat))),.imm (.bytes (List.take ((o2 (Hd.mk v iu is l t ty c) s).toNat - (o1 (Hd.mk v iu is l t ty c) s).toNat) (List.drop (o1 (Hd.mk v iu is l t ty c) s).toNat (takeU (Cu.mk d p e a) (IntKind.wrap .i64 (if sumU (Hd.mk v iu is l t ty c) s≤IntKind.wrap IntKind.u64 (restU (Cu.mk d p e a)) then sumU (Hd.mk v iu is l t ty c) s else (0:Int))))))),AV.new (IV.sl (3:Nat) (List.map cellsT (dec (List.take ((o3 (Hd.mk v iu is l t ty c) s).toNat - (o2 (Hd.mk v iu is l t ty c) s).toNat) (List.drop (o2 (Hd.mk v iu is l t ty c) s).toNat (takeU (Cu.mk d p e a) (IntKind.wrap .i64 (if sumU (Hd.mk v iu is l t ty c) s≤IntKind.wrap IntKind.u64 (restU (Cu.mk d p e a)) then sumU (Hd.mk v iu is l t ty c) s else (0:Int))))))))),.imm (.bytes (List.take ((o4 (Hd.mk v iu is l t ty c) s).toNat - (o3 (Hd.mk v iu is l t ty c) s).toNat) (List.drop (o3 (Hd.mk v iu is l t ty c) s).toNat (takeU (Cu.mk d p e a) (IntKind.wrap .i64 (if sumU (Hd.mk v iu is l t ty c) s≤IntKind.wrap IntKind.u64 (restU (Cu.mk d p e a)) then sumU (Hd.mk v iu is l t ty c) s else (0:Int))))))),AV.new (IV.sl (2:Nat) (List.map cellsL (decL
 (List.take ((o5 (Hd.mk v iu is l t ty c) s).toNat - (o4 (Hd.mk v iu is l t ty c) s).toNat) (List.drop (o4 (Hd.mk v iu is l t ty c) s).toNat (takeU (Cu.mk d p e a) (IntKind.wrap .i64 (if sumU (Hd.mk v iu is l t ty c) s≤IntKind.wrap IntKind.u64 (restU (Cu.mk d p e a)) then sumU (Hd.mk v iu is l t ty c) s else (0:Int)))))) s.toNat ((List.take ((o5 (Hd.mk v iu is l t ty c) s).toNat - (o4 (Hd.mk v iu is l t ty c) s).toNat) (List.drop (o4 (Hd.mk v iu is l t ty c) s).toNat (takeU (Cu.mk d p e a) (IntKind.wrap .i64 (if sumU (Hd.mk v iu is l t ty c) s≤IntKind.wrap IntKind.u64 (restU (Cu.mk d p e a)) then sumU (Hd.mk v iu is l t ty c) s else (0:Int)))))).length / (s.toNat + 4))))),AV.new (IV.bools (decO (List.take ((o6 (Hd.mk v iu is l t ty c) s).toNat - (o5 (Hd.mk v iu is l t ty c) s).toNat) (List.drop (o5 (Hd.mk v iu is l t ty c) s).toNat (takeU (Cu.mk d p e a) (IntKind.wrap .i64 (if sumU (Hd.mk v iu is l t ty c) s≤IntKind.wrap IntKind.u64 (restU (Cu.mk d p e a)) then sumU (Hd.mk v iu is l t ty c) s else (0:Int)))))))),AV.new (IV.bools (decO (List.take ((o7 (Hd.mk v iu is l t ty c) s).toNat - (o6 (Hd.mk v iu is l t ty c) s).toNat) (List.drop (o6 (Hd.mk v iu is l t ty c)
 s).toNat (takeU (Cu.mk d p e a) (IntKind.wrap .i64 (if sumU (Hd.mk v iu is l t ty c) s≤IntKind.wrap IntKind.u64 (restU (Cu.mk d p e a)) then sumU (Hd.mk v iu is l t ty c) s else (0:Int))))))))],.agg [.imm (.bytes (Cu.d (advU (Cu.mk d p e a) (IntKind.wrap .i64 (if sumU (Hd.mk v iu is l t ty c) s≤IntKind.wrap IntKind.u64 (restU (Cu.mk d p e a)) then sumU (Hd.mk v iu is l t ty c) s else (0:Int)))))),.imm (.int .i64 (Cu.p (advU (Cu.mk d p e a) (IntKind.wrap .i64 (if sumU (Hd.mk v iu is l t ty c) s≤IntKind.wrap IntKind.u64 (restU (Cu.mk d p e a)) then sumU (Hd.mk v iu is l t ty c) s else (0:Int)))))),.imm (.int .i64 (Cu.e (advU (Cu.mk d p e a) (IntKind.wrap .i64 (if sumU (Hd.mk v iu is l t ty c) s≤IntKind.wrap IntKind.u64 (restU (Cu.mk d p e a)) then sumU (Hd.mk v iu is l t ty c) s else (0:Int)))))),.imm (.int .i64 (Cu.a (advU (Cu.mk d p e a) (IntKind.wrap .i64 (if sumU (Hd.mk v iu is l t ty c) s≤IntKind.wrap IntKind.u64 (restU (Cu.mk d p e a)) then sumU (Hd.mk v iu is l t ty c) s else (0:Int))))))]])∧(0:Int)≤o4 (Hd.mk v iu is l t ty c) s∧o4 (Hd.mk v iu is l t ty c) s≤o5 (Hd.mk v iu is l t ty c) s∧o5 (Hd.mk v iu is l t ty c) s≤o5 (Hd.mk v iu is l t
 ty c) s∧o5 (Hd.mk v iu is l t ty c) s≤(↑(takeU (Cu.mk d p e a) (IntKind.wrap .i64 (if sumU (Hd.mk v iu is l t ty c) s≤IntKind.wrap IntKind.u64 (restU (Cu.mk d p e a)) then sumU (Hd.mk v iu is l t ty c) s else (0:Int)))).length:Int)∧sz48 s∧(↑(List.take ((o5 (Hd.mk v iu is l t ty c) s).toNat - (o4 (Hd.mk v iu is l t ty c) s).toNat) (List.drop (o4 (Hd.mk v iu is l t ty c) s).toNat (takeU (Cu.mk d p e a) (IntKind.wrap .i64 (if sumU (Hd.mk v iu is l t ty c) s≤IntKind.wrap IntKind.u64 (restU (Cu.mk d p e a)) then sumU (Hd.mk v iu is l t ty c) s else (0:Int)))))).length:Int)≤big'∧K [.agg [AV.new (IV.ints IntKind.i64 (decI (List.take ((o1 (Hd.mk v iu is l t ty c) s).toNat - (0:Int).toNat) (List.drop (0:Int).toNat (takeU (Cu.mk d p e a) (IntKind.wrap .i64 (if sumU (Hd.mk v iu is l t ty c) s≤IntKind.wrap IntKind.u64 (restU (Cu.mk d p e a)) then sumU (Hd.mk v iu is l t ty c) s else (0:Int)))))) s.toNat ((List.take ((o1 (Hd.mk v iu is l t ty c) s).toNat - (0:Int).toNat) (List.drop (0:Int).toNat (takeU (Cu.mk d p e a) (IntKind.wrap .i64 (if sumU (Hd.mk v iu is l t ty c) s≤IntKind.wrap IntKind.u64 (restU (Cu.mk d p e a)) then sumU (Hd.mk v iu is l t ty c) s
 else (0:Int)))))).length / s.toNat))),.imm (.bytes (List.take ((o2 (Hd.mk v iu is l t ty c) s).toNat - (o1 (Hd.mk v iu is l t ty c) s).toNat) (List.drop (o1 (Hd.mk v iu is l t ty c) s).toNat (takeU (Cu.mk d p e a) (IntKind.wrap .i64 (if sumU (Hd.mk v iu is l t ty c) s≤IntKind.wrap IntKind.u64 (restU (Cu.mk d p e a)) then sumU (Hd.mk v iu is l t ty c) s else (0:Int))))))),AV.new (IV.sl (3:Nat) (List.map cellsT (dec (List.take ((o3 (Hd.mk v iu is l t ty c) s).toNat - (o2 (Hd.mk v iu is l t ty c) s).toNat) (List.drop (o2 (Hd.mk v iu is l t ty c) s).toNat (takeU (Cu.mk d p e a) (IntKind.wrap .i64 (if sumU (Hd.mk v iu is l t ty c) s≤IntKind.wrap IntKind.u64 (restU (Cu.mk d p e a)) then sumU (Hd.mk v iu is l t ty c) s else (0:Int))))))))),.imm (.bytes (List.take ((o4 (Hd.mk v iu is l t ty c) s).toNat - (o3 (Hd.mk v iu is l t ty c) s).toNat) (List.drop (o3 (Hd.mk v iu is l t ty c) s).toNat (takeU (Cu.mk d p e a) (IntKind.wrap .i64 (if sumU (Hd.mk v iu is l t ty c) s≤IntKind.wrap IntKind.u64 (restU (Cu.mk d p e a)) then sumU (Hd.mk v iu is l t ty c) s else (0:Int))))))),AV.new (IV.sl (2:Nat) (List.map cellsL (decL (List.take ((o5 (Hd.mk v iu is l t ty c) s).toNat - (o4
 (Hd.mk v iu is l t ty c) s).toNat) (List.drop (o4 (Hd.mk v iu is l t ty c) s).toNat (takeU (Cu.mk d p e a) (IntKind.wrap .i64 (if sumU (Hd.mk v iu is l t ty c) s≤IntKind.wrap IntKind.u64 (restU (Cu.mk d p e a)) then sumU (Hd.mk v iu is l t ty c) s else (0:Int)))))) s.toNat ((List.take ((o5 (Hd.mk v iu is l t ty c) s).toNat - (o4 (Hd.mk v iu is l t ty c) s).toNat) (List.drop (o4 (Hd.mk v iu is l t ty c) s).toNat (takeU (Cu.mk d p e a) (IntKind.wrap .i64 (if sumU (Hd.mk v iu is l t ty c) s≤IntKind.wrap IntKind.u64 (restU (Cu.mk d p e a)) then sumU (Hd.mk v iu is l t ty c) s else (0:Int)))))).length / (s.toNat + 4))))),AV.new (IV.bools (decO (List.take ((o6 (Hd.mk v iu is l t ty c) s).toNat - (o5 (Hd.mk v iu is l t ty c) s).toNat) (List.drop (o5 (Hd.mk v iu is l t ty c) s).toNat (takeU (Cu.mk d p e a) (IntKind.wrap .i64 (if sumU (Hd.mk v iu is l t ty c) s≤IntKind.wrap IntKind.u64 (restU (Cu.mk d p e a)) then sumU (Hd.mk v iu is l t ty c) s else (0:Int)))))))),AV.new (IV.bools (decO (List.take ((o7 (Hd.mk v iu is l t ty c) s).toNat - (o6 (Hd.mk v iu is l t ty c) s).toNat) (List.drop (o6 (Hd.mk v iu is l t ty c) s).toNat (takeU (Cu.mk d p e a) (IntKind.wrap .i64 (if sumU
 (Hd.mk v iu is l t ty c) s≤IntKind.wrap IntKind.u64 (restU (Cu.mk d p e a)) then sumU (Hd.mk v iu is l t ty c) s else (0:Int))))))))],.agg [.imm (.bytes (Cu.d (advU (Cu.mk d p e a) (IntKind.wrap .i64 (if sumU (Hd.mk v iu is l t ty c) s≤IntKind.wrap IntKind.u64 (restU (Cu.mk d p e a)) then sumU (Hd.mk v iu is l t ty c) s else (0:Int)))))),.imm (.int .i64 (Cu.p (advU (Cu.mk d p e a) (IntKind.wrap .i64 (if sumU (Hd.mk v iu is l t ty c) s≤IntKind.wrap IntKind.u64 (restU (Cu.mk d p e a)) then sumU (Hd.mk v iu is l t ty c) s else (0:Int)))))),.imm (.int .i64 (Cu.e (advU (Cu.mk d p e a) (IntKind.wrap .i64 (if sumU (Hd.mk v iu is l t ty c) s≤IntKind.wrap IntKind.u64 (restU (Cu.mk d p e a)) then sumU (Hd.mk v iu is l t ty c) s else (0:Int)))))),.imm (.int .i64 (Cu.a (advU (Cu.mk d p e a) (IntKind.wrap .i64 (if sumU (Hd.mk v iu is l t ty c) s≤IntKind.wrap IntKind.u64 (restU (Cu.mk d p e a)) then sumU (Hd.mk v iu is l t ty c) s else (0:Int))))))]])∧(0:Int)≤o3 (Hd.mk v iu is l t ty c) s∧o3 (Hd.mk v iu is l t ty c) s≤o4 (Hd.mk v iu is l t ty c) s∧o4 (Hd.mk v iu is l t ty c) s≤o4 (Hd.mk v iu is l t ty c) s∧o4 (Hd.mk v iu is l t ty c) s≤(↑(takeU (Cu.mk d p
 e a) (IntKind.wrap .i64 (if sumU (Hd.mk v iu is l t ty c) s≤IntKind.wrap IntKind.u64 (restU (Cu.mk d p e a)) then sumU (Hd.mk v iu is l t ty c) s else (0:Int)))).length:Int)∧(0:Int)≤o4 (Hd.mk v iu is l t ty c) s∧o4 (Hd.mk v iu is l t ty c) s≤o5 (Hd.mk v iu is l t ty c) s∧o5 (Hd.mk v iu is l t ty c) s≤o5 (Hd.mk v iu is l t ty c) s∧o5 (Hd.mk v iu is l t ty c) s≤(↑(takeU (Cu.mk d p e a) (IntKind.wrap .i64 (if sumU (Hd.mk v iu is l t ty c) s≤IntKind.wrap IntKind.u64 (restU (Cu.mk d p e a)) then sumU (Hd.mk v iu is l t ty c) s else (0:Int)))).length:Int)∧sz48 s∧(↑(List.take ((o5 (Hd.mk v iu is l t ty c) s).toNat - (o4 (Hd.mk v iu is l t ty c) s).toNat) (List.drop (o4 (Hd.mk v iu is l t ty c) s).toNat (takeU (Cu.mk d p e a) (IntKind.wrap .i64 (if sumU (Hd.mk v iu is l t ty c) s≤IntKind.wrap IntKind.u64 (restU (Cu.mk d p e a)) then sumU (Hd.mk v iu is l t ty c) s else (0:Int)))))).length:Int)≤big'∧K [.agg [AV.new (IV.ints IntKind.i64 (decI (List.take ((o1 (Hd.mk v iu is l t ty c) s).toNat - (0:Int).toNat) (List.drop (0:Int).toNat (takeU (Cu.mk d p e a) (IntKind.wrap .i64 (if sumU (Hd.mk v iu is l t ty c) s≤IntKind.wrap IntKind.u64 (restU
 (Cu.mk d p e a)) then sumU (Hd.mk v iu is l t ty c) s else (0:Int)))))) s.toNat ((List.take ((o1 (Hd.mk v iu is l t ty c) s).toNat - (0:Int).toNat) (List.drop (0:Int).toNat (takeU (Cu.mk d p e a) (IntKind.wrap .i64 (if sumU (Hd.mk v iu is l t ty c) s≤IntKind.wrap IntKind.u64 (restU (Cu.mk d p e a)) then sumU (Hd.mk v iu is l t ty c) s else (0:Int)))))).length / s.toNat))),.imm (.bytes (List.take ((o2 (Hd.mk v iu is l t ty c) s).toNat - (o1 (Hd.mk v iu is l t ty c) s).toNat) (List.drop (o1 (Hd.mk v iu is l t ty c) s).toNat (takeU (Cu.mk d p e a) (IntKind.wrap .i64 (if sumU (Hd.mk v iu is l t ty c) s≤IntKind.wrap IntKind.u64 (restU (Cu.mk d p e a)) then sumU (Hd.mk v iu is l t ty c) s else (0:Int))))))),AV.new (IV.sl (3:Nat) (List.map cellsT (dec (List.take ((o3 (Hd.mk v iu is l t ty c) s).toNat - (o2 (Hd.mk v iu is l t ty c) s).toNat) (List.drop (o2 (Hd.mk v iu is l t ty c) s).toNat (takeU (Cu.mk d p e a) (IntKind.wrap .i64 (if sumU (Hd.mk v iu is l t ty c) s≤IntKind.wrap IntKind.u64 (restU (Cu.mk d p e a)) then sumU (Hd.mk v iu is l t ty c) s else (0:Int))))))))),.imm (.bytes (List.take ((o4 (Hd.mk v iu is l t ty c) s).toNat - (o3 (Hd.mk v iu is l t ty c)
 s).toNat) (List.drop (o3 (Hd.mk v iu is l t ty c) s).toNat (takeU (Cu.mk d p e a) (IntKind.wrap .i64 (if sumU (Hd.mk v iu is l t ty c) s≤IntKind.wrap IntKind.u64 (restU (Cu.mk d p e a)) then sumU (Hd.mk v iu is l t ty c) s else (0:Int))))))),AV.new (IV.sl (2:Nat) (List.map cellsL (decL (List.take ((o5 (Hd.mk v iu is l t ty c) s).toNat - (o4 (Hd.mk v iu is l t ty c) s).toNat) (List.drop (o4 (Hd.mk v iu is l t ty c) s).toNat (takeU (Cu.mk d p e a) (IntKind.wrap .i64 (if sumU (Hd.mk v iu is l t ty c) s≤IntKind.wrap IntKind.u64 (restU (Cu.mk d p e a)) then sumU (Hd.mk v iu is l t ty c) s else (0:Int)))))) s.toNat ((List.take ((o5 (Hd.mk v iu is l t ty c) s).toNat - (o4 (Hd.mk v iu is l t ty c) s).toNat) (List.drop (o4 (Hd.mk v iu is l t ty c) s).toNat (takeU (Cu.mk d p e a) (IntKind.wrap .i64 (if sumU (Hd.mk v iu is l t ty c) s≤IntKind.wrap IntKind.u64 (restU (Cu.mk d p e a)) then sumU (Hd.mk v iu is l t ty c) s else (0:Int)))))).length / (s.toNat + 4))))),AV.new (IV.bools (decO (List.take ((o6 (Hd.mk v iu is l t ty c) s).toNat - (o5 (Hd.mk v iu is l t ty c) s).toNat) (List.drop (o5 (Hd.mk v iu is l t ty c) s).toNat (takeU (Cu.mk d p e a) (IntKind.wrap .i64 (if sumU
 (Hd.mk v iu is l t ty c) s≤IntKind.wrap IntKind.u64 (restU (Cu.mk d p e a)) then sumU (Hd.mk v iu is l t ty c) s else (0:Int)))))))),AV.new (IV.bools (decO (List.take ((o7 (Hd.mk v iu is l t ty c) s).toNat - (o6 (Hd.mk v iu is l t ty c) s).toNat) (List.drop (o6 (Hd.mk v iu is l t ty c) s).toNat (takeU (Cu.mk d p e a) (IntKind.wrap .i64 (if sumU (Hd.mk v iu is l t ty c) s≤IntKind.wrap IntKind.u64 (restU (Cu.mk d p e a)) then sumU (Hd.mk v iu is l t ty c) s else (0:Int))))))))],.agg [.imm (.bytes (Cu.d (advU (Cu.mk d p e a) (IntKind.wrap .i64 (if sumU (Hd.mk v iu is l t ty c) s≤IntKind.wrap IntKind.u64 (restU (Cu.mk d p e a)) then sumU (Hd.mk v iu is l t ty c) s else (0:Int)))))),.imm (.int .i64 (Cu.p (advU (Cu.mk d p e a) (IntKind.wrap .i64 (if sumU (Hd.mk v iu is l t ty c) s≤IntKind.wrap IntKind.u64 (restU (Cu.mk d p e a)) then sumU (Hd.mk v iu is l t ty c) s else (0:Int)))))),.imm (.int .i64 (Cu.e (advU (Cu.mk d p e a) (IntKind.wrap .i64 (if sumU (Hd.mk v iu is l t ty c) s≤IntKind.wrap IntKind.u64 (restU (Cu.mk d p e a)) then sumU (Hd.mk v iu is l t ty c) s else (0:Int)))))),.imm (.int .i64 (Cu.a (advU (Cu.mk d p e a) (IntKind.wrap .i64 (if sumU (Hd.mk v iu
 is l t ty c) s≤IntKind.wrap IntKind.u64 (restU (Cu.mk d p e a)) then sumU (Hd.mk v iu is l t ty c) s else (0:Int))))))]])∧(0:Int)≤o1 (Hd.mk v iu is l t ty c) s∧o1 (Hd.mk v iu is l t ty c) s≤o2 (Hd.mk v iu is l t ty c) s∧o2 (Hd.mk v iu is l t ty c) s≤o2 (Hd.mk v iu is l t ty c) s∧o2 (Hd.mk v iu is l t ty c) s≤(↑(takeU (Cu.mk d p e a) (IntKind.wrap .i64 (if sumU (Hd.mk v iu is l t ty c) s≤IntKind.wrap IntKind.u64 (restU (Cu.mk d p e a)) then sumU (Hd.mk v iu is l t ty c) s else (0:Int)))).length:Int)∧(0:Int)≤o3 (Hd.mk v iu is l t ty c) s∧o3 (Hd.mk v iu is l t ty c) s≤o4 (Hd.mk v iu is l t ty c) s∧o4 (Hd.mk v iu is l t ty c) s≤o4 (Hd.mk v iu is l t ty c) s∧o4 (Hd.mk v iu is l t ty c) s≤(↑(takeU (Cu.mk d p e a) (IntKind.wrap .i64 (if sumU (Hd.mk v iu is l t ty c) s≤IntKind.wrap IntKind.u64 (restU (Cu.mk d p e a)) then sumU (Hd.mk v iu is l t ty c) s else (0:Int)))).length:Int)∧(0:Int)≤o4 (Hd.mk v iu is l t ty c) s∧o4 (Hd.mk v iu is l t ty c) s≤o5 (Hd.mk v iu is l t ty c) s∧o5 (Hd.mk v iu is l t ty c) s≤o5 (Hd.mk v iu is l t ty c) s∧o5 (Hd.mk v iu is l t ty c) s≤(↑(takeU (Cu.mk d p e a) (IntKind.wrap .i64 (if sumU
 (Hd.mk v iu is l t ty c) s≤IntKind.wrap IntKind.u64 (restU (Cu.mk d p e a)) then sumU (Hd.mk v iu is l t ty c) s else (0:Int)))).length:Int)∧sz48 s∧(↑(List.take ((o5 (Hd.mk v iu is l t ty c) s).toNat - (o4 (Hd.mk v iu is l t ty c) s).toNat) (List.drop (o4 (Hd.mk v iu is l t ty c) s).toNat (takeU (Cu.mk d p e a) (IntKind.wrap .i64 (if sumU (Hd.mk v iu is l t ty c) s≤IntKind.wrap IntKind.u64 (restU (Cu.mk d p e a)) then sumU (Hd.mk v iu is l t ty c) s else (0:Int)))))).length:Int)≤big'∧K [.agg [AV.new (IV.ints IntKind.i64 (decI (List.take ((o1 (Hd.mk v iu is l t ty c) s).toNat - (0:Int).toNat) (List.drop (0:Int).toNat (takeU (Cu.mk d p e a) (IntKind.wrap .i64 (if sumU (Hd.mk v iu is l t ty c) s≤IntKind.wrap IntKind.u64 (restU (Cu.mk d p e a)) then sumU (Hd.mk v iu is l t ty c) s else (0:Int)))))) s.toNat ((List.take ((o1 (Hd.mk v iu is l t ty c) s).toNat - (0:Int).toNat) (List.drop (0:Int).toNat (takeU (Cu.mk d p e a) (IntKind.wrap .i64 (if sumU (Hd.mk v iu is l t ty c) s≤IntKind.wrap IntKind.u64 (restU (Cu.mk d p e a)) then sumU (Hd.mk v iu is l t ty c) s else (0:Int)))))).length / s.toNat))),.imm (.bytes (List.take ((o2 (Hd.mk v iu is l t ty c)
 s).toNat - (o1 (Hd.mk v iu is l t ty c) s).toNat) (List.drop (o1 (Hd.mk v iu is l t ty c) s).toNat (takeU (Cu.mk d p e a) (IntKind.wrap .i64 (if sumU (Hd.mk v iu is l t ty c) s≤IntKind.wrap IntKind.u64 (restU (Cu.mk d p e a)) then sumU (Hd.mk v iu is l t ty c) s else (0:Int))))))),AV.new (IV.sl (3:Nat) (List.map cellsT (dec (List.take ((o3 (Hd.mk v iu is l t ty c) s).toNat - (o2 (Hd.mk v iu is l t ty c) s).toNat) (List.drop (o2 (Hd.mk v iu is l t ty c) s).toNat (takeU (Cu.mk d p e a) (IntKind.wrap .i64 (if sumU (Hd.mk v iu is l t ty c) s≤IntKind.wrap IntKind.u64 (restU (Cu.mk d p e a)) then sumU (Hd.mk v iu is l t ty c) s else (0:Int))))))))),.imm (.bytes (List.take ((o4 (Hd.mk v iu is l t ty c) s).toNat - (o3 (Hd.mk v iu is l t ty c) s).toNat) (List.drop (o3 (Hd.mk v iu is l t ty c) s).toNat (takeU (Cu.mk d p e a) (IntKind.wrap .i64 (if sumU (Hd.mk v iu is l t ty c) s≤IntKind.wrap IntKind.u64 (restU (Cu.mk d p e a)) then sumU (Hd.mk v iu is l t ty c) s else (0:Int))))))),AV.new (IV.sl (2:Nat) (List.map cellsL (decL (List.take ((o5 (Hd.mk v iu is l t ty c) s).toNat - (o4 (Hd.mk v iu is l t ty c) s).toNat) (List.drop (o4 (Hd.mk v iu is l t ty c) s).toNat (takeU
 (Cu.mk d p e a) (IntKind.wrap .i64 (if sumU (Hd.mk v iu is l t ty c) s≤IntKind.wrap IntKind.u64 (restU (Cu.mk d p e a)) then sumU (Hd.mk v iu is l t ty c) s else (0:Int)))))) s.toNat ((List.take ((o5 (Hd.mk v iu is l t ty c) s).toNat - (o4 (Hd.mk v iu is l t ty c) s).toNat) (List.drop (o4 (Hd.mk v iu is l t ty c) s).toNat (takeU (Cu.mk d p e a) (IntKind.wrap .i64 (if sumU (Hd.mk v iu is l t ty c) s≤IntKind.wrap IntKind.u64 (restU (Cu.mk d p e a)) then sumU (Hd.mk v iu is l t ty c) s else (0:Int)))))).length / (s.toNat + 4))))),AV.new (IV.bools (decO (List.take ((o6 (Hd.mk v iu is l t ty c) s).toNat - (o5 (Hd.mk v iu is l t ty c) s).toNat) (List.drop (o5 (Hd.mk v iu is l t ty c) s).toNat (takeU (Cu.mk d p e a) (IntKind.wrap .i64 (if sumU (Hd.mk v iu is l t ty c) s≤IntKind.wrap IntKind.u64 (restU (Cu.mk d p e a)) then sumU (Hd.mk v iu is l t ty c) s else (0:Int)))))))),AV.new (IV.bools (decO (List.take ((o7 (Hd.mk v iu is l t ty c) s).toNat - (o6 (Hd.mk v iu is l t ty c) s).toNat) (List.drop (o6 (Hd.mk v iu is l t ty c) s).toNat (takeU (Cu.mk d p e a) (IntKind.wrap .i64 (if sumU (Hd.mk v iu is l t ty c) s≤IntKind.wrap IntKind.u64 (restU (Cu.mk d p e a)) then sumU
 (Hd.mk v iu is l t ty c) s else (0:Int))))))))],.agg [.imm (.bytes (Cu.d (advU (Cu.mk d p e a) (IntKind.wrap .i64 (if sumU (Hd.mk v iu is l t ty c) s≤IntKind.wrap IntKind.u64 (restU (Cu.mk d p e a)) then sumU (Hd.mk v iu is l t ty c) s else (0:Int)))))),.imm (.int .i64 (Cu.p (advU (Cu.mk d p e a) (IntKind.wrap .i64 (if sumU (Hd.mk v iu is l t ty c) s≤IntKind.wrap IntKind.u64 (restU (Cu.mk d p e a)) then sumU (Hd.mk v iu is l t ty c) s else (0:Int)))))),.imm (.int .i64 (Cu.e (advU (Cu.mk d p e a) (IntKind.wrap .i64 (if sumU (Hd.mk v iu is l t ty c) s≤IntKind.wrap IntKind.u64 (restU (Cu.mk d p e a)) then sumU (Hd.mk v iu is l t ty c) s else (0:Int)))))),.imm (.int .i64 (Cu.a (advU (Cu.mk d p e a) (IntKind.wrap .i64 (if sumU (Hd.mk v iu is l t ty c) s≤IntKind.wrap IntKind.u64 (restU (Cu.mk d p e a)) then sumU (Hd.mk v iu is l t ty c) s else (0:Int))))))]])∧sz48 s∧(↑(List.take ((o1 (Hd.mk v iu is l t ty c) s).toNat - (0:Int).toNat) (List.drop (0:Int).toNat (takeU (Cu.mk d p e a) (IntKind.wrap .i64 (if sumU (Hd.mk v iu is l t ty c) s≤IntKind.wrap IntKind.u64 (restU (Cu.mk d p e a)) then sumU (Hd.mk v iu is l t ty c) s else (0:Int)))))).length:Int) ≤
 big'∧(0:Int)≤o1 (Hd.mk v iu is l t ty c) s∧o1 (Hd.mk v iu is l t ty c) s≤o2 (Hd.mk v iu is l t ty c) s∧o2 (Hd.mk v iu is l t ty c) s≤o2 (Hd.mk v iu is l t ty c) s∧o2 (Hd.mk v iu is l t ty c) s≤(↑(takeU (Cu.mk d p e a) (IntKind.wrap .i64 (if sumU (Hd.mk v iu is l t ty c) s≤IntKind.wrap IntKind.u64 (restU (Cu.mk d p e a)) then sumU (Hd.mk v iu is l t ty c) s else (0:Int)))).length:Int)∧(0:Int)≤o3 (Hd.mk v iu is l t ty c) s∧o3 (Hd.mk v iu is l t ty c) s≤o4 (Hd.mk v iu is l t ty c) s∧o4 (Hd.mk v iu is l t ty c) s≤o4 (Hd.mk v iu is l t ty c) s∧o4 (Hd.mk v iu is l t ty c) s≤(↑(takeU (Cu.mk d p e a) (IntKind.wrap .i64 (if sumU (Hd.mk v iu is l t ty c) s≤IntKind.wrap IntKind.u64 (restU (Cu.mk d p e a)) then sumU (Hd.mk v iu is l t ty c) s else (0:Int)))).length:Int)∧(0:Int)≤o4 (Hd.mk v iu is l t ty c) s∧o4 (Hd.mk v iu is l t ty c) s≤o5 (Hd.mk v iu is l t ty c) s∧o5 (Hd.mk v iu is l t ty c) s≤o5 (Hd.mk v iu is l t ty c) s∧o5 (Hd.mk v iu is l t ty c) s≤(↑(takeU (Cu.mk d p e a) (IntKind.wrap .i64 (if sumU (Hd.mk v iu is l t ty c) s≤IntKind.wrap IntKind.u64 (restU (Cu.mk d p e a)) then sumU (Hd.mk v iu is l t ty c) s else (0 :
 Int)))).length:Int)∧sz48 s∧(↑(List.take ((o5 (Hd.mk v iu is l t ty c) s).toNat - (o4 (Hd.mk v iu is l t ty c) s).toNat) (List.drop (o4 (Hd.mk v iu is l t ty c) s).toNat (takeU (Cu.mk d p e a) (IntKind.wrap .i64 (if sumU (Hd.mk v iu is l t ty c) s≤IntKind.wrap IntKind.u64 (restU (Cu.mk d p e a)) then sumU (Hd.mk v iu is l t ty c) s else (0:Int)))))).length:Int)≤big'∧K [.agg [AV.new (IV.ints IntKind.i64 (decI (List.take ((o1 (Hd.mk v iu is l t ty c) s).toNat - (0:Int).toNat) (List.drop (0:Int).toNat (takeU (Cu.mk d p e a) (IntKind.wrap .i64 (if sumU (Hd.mk v iu is l t ty c) s≤IntKind.wrap IntKind.u64 (restU (Cu.mk d p e a)) then sumU (Hd.mk v iu is l t ty c) s else (0:Int)))))) s.toNat ((List.take ((o1 (Hd.mk v iu is l t ty c) s).toNat - (0:Int).toNat) (List.drop (0:Int).toNat (takeU (Cu.mk d p e a) (IntKind.wrap .i64 (if sumU (Hd.mk v iu is l t ty c) s≤IntKind.wrap IntKind.u64 (restU (Cu.mk d p e a)) then sumU (Hd.mk v iu is l t ty c) s else (0:Int)))))).length / s.toNat))),.imm (.bytes (List.take ((o2 (Hd.mk v iu is l t ty c) s).toNat - (o1 (Hd.mk v iu is l t ty c) s).toNat) (List.drop (o1 (Hd.mk v iu is l t ty c) s).toNat (takeU (Cu.mk d p e a)
 (IntKind.wrap .i64 (if sumU (Hd.mk v iu is l t ty c) s≤IntKind.wrap IntKind.u64 (restU (Cu.mk d p e a)) then sumU (Hd.mk v iu is l t ty c) s else (0:Int))))))),AV.new (IV.sl (3:Nat) (List.map cellsT (dec (List.take ((o3 (Hd.mk v iu is l t ty c) s).toNat - (o2 (Hd.mk v iu is l t ty c) s).toNat) (List.drop (o2 (Hd.mk v iu is l t ty c) s).toNat (takeU (Cu.mk d p e a) (IntKind.wrap .i64 (if sumU (Hd.mk v iu is l t ty c) s≤IntKind.wrap IntKind.u64 (restU (Cu.mk d p e a)) then sumU (Hd.mk v iu is l t ty c) s else (0:Int))))))))),.imm (.bytes (List.take ((o4 (Hd.mk v iu is l t ty c) s).toNat - (o3 (Hd.mk v iu is l t ty c) s).toNat) (List.drop (o3 (Hd.mk v iu is l t ty c) s).toNat (takeU (Cu.mk d p e a) (IntKind.wrap .i64 (if sumU (Hd.mk v iu is l t ty c) s≤IntKind.wrap IntKind.u64 (restU (Cu.mk d p e a)) then sumU (Hd.mk v iu is l t ty c) s else (0:Int))))))),AV.new (IV.sl (2:Nat) (List.map cellsL (decL (List.take ((o5 (Hd.mk v iu is l t ty c) s).toNat - (o4 (Hd.mk v iu is l t ty c) s).toNat) (List.drop (o4 (Hd.mk v iu is l t ty c) s).toNat (takeU (Cu.mk d p e a) (IntKind.wrap .i64 (if sumU (Hd.mk v iu is l t ty c) s≤IntKind.wrap IntKind.u64 (restU (Cu.mk d p e a))
 then sumU (Hd.mk v iu is l t ty c) s else (0:Int)))))) s.toNat ((List.take ((o5 (Hd.mk v iu is l t ty c) s).toNat - (o4 (Hd.mk v iu is l t ty c) s).toNat) (List.drop (o4 (Hd.mk v iu is l t ty c) s).toNat (takeU (Cu.mk d p e a) (IntKind.wrap .i64 (if sumU (Hd.mk v iu is l t ty c) s≤IntKind.wrap IntKind.u64 (restU (Cu.mk d p e a)) then sumU (Hd.mk v iu is l t ty c) s else (0:Int)))))).length / (s.toNat + 4))))),AV.new (IV.bools (decO (List.take ((o6 (Hd.mk v iu is l t ty c) s).toNat - (o5 (Hd.mk v iu is l t ty c) s).toNat) (List.drop (o5 (Hd.mk v iu is l t ty c) s).toNat (takeU (Cu.mk d p e a) (IntKind.wrap .i64 (if sumU (Hd.mk v iu is l t ty c) s≤IntKind.wrap IntKind.u64 (restU (Cu.mk d p e a)) then sumU (Hd.mk v iu is l t ty c) s else (0:Int)))))))),AV.new (IV.bools (decO (List.take ((o7 (Hd.mk v iu is l t ty c) s).toNat - (o6 (Hd.mk v iu is l t ty c) s).toNat) (List.drop (o6 (Hd.mk v iu is l t ty c) s).toNat (takeU (Cu.mk d p e a) (IntKind.wrap .i64 (if sumU (Hd.mk v iu is l t ty c) s≤IntKind.wrap IntKind.u64 (restU (Cu.mk d p e a)) then sumU (Hd.mk v iu is l t ty c) s else (0:Int))))))))],.agg [.imm (.bytes (Cu.d (advU (Cu.mk d p e a) (IntKind.wrap .i64 (if sumU
 (Hd.mk v iu is l t ty c) s≤IntKind.wrap IntKind.u64 (restU (Cu.mk d p e a)) then sumU (Hd.mk v iu is l t ty c) s else (0:Int)))))),.imm (.int .i64 (Cu.p (advU (Cu.mk d p e a) (IntKind.wrap .i64 (if sumU (Hd.mk v iu is l t ty c) s≤IntKind.wrap IntKind.u64 (restU (Cu.mk d p e a)) then sumU (Hd.mk v iu is l t ty c) s else (0:Int)))))),.imm (.int .i64 (Cu.e (advU (Cu.mk d p e a) (IntKind.wrap .i64 (if sumU (Hd.mk v iu is l t ty c) s≤IntKind.wrap IntKind.u64 (restU (Cu.mk d p e a)) then sumU (Hd.mk v iu is l t ty c) s else (0:Int)))))),.imm (.int .i64 (Cu.a (advU (Cu.mk d p e a) (IntKind.wrap .i64 (if sumU (Hd.mk v iu is l t ty c) s≤IntKind.wrap IntKind.u64 (restU (Cu.mk d p e a)) then sumU (Hd.mk v iu is l t ty c) s else (0:Int))))))]])∧(0:Int)≤0∧(0:Int)≤o1 (Hd.mk v iu is l t ty c) s∧o1 (Hd.mk v iu is l t ty c) s≤o1 (Hd.mk v iu is l t ty c) s∧o1 (Hd.mk v iu is l t ty c) s≤(↑(takeU (Cu.mk d p e a) (IntKind.wrap .i64 (if sumU (Hd.mk v iu is l t ty c) s≤IntKind.wrap IntKind.u64 (restU (Cu.mk d p e a)) then sumU (Hd.mk v iu is l t ty c) s else (0:Int)))).length:Int)∧sz48 s∧(↑(List.take ((o1 (Hd.mk v iu is l t ty c) s).toNat - (0:Int).toNat)
 (List.drop (0:Int).toNat (takeU (Cu.mk d p e a) (IntKind.wrap .i64 (if sumU (Hd.mk v iu is l t ty c) s≤IntKind.wrap IntKind.u64 (restU (Cu.mk d p e a)) then sumU (Hd.mk v iu is l t ty c) s else (0:Int)))))).length:Int)≤big'∧(0:Int)≤o1 (Hd.mk v iu is l t ty c) s∧o1 (Hd.mk v iu is l t ty c) s≤o2 (Hd.mk v iu is l t ty c) s∧o2 (Hd.mk v iu is l t ty c) s≤o2 (Hd.mk v iu is l t ty c) s∧o2 (Hd.mk v iu is l t ty c) s≤(↑(takeU (Cu.mk d p e a) (IntKind.wrap .i64 (if sumU (Hd.mk v iu is l t ty c) s≤IntKind.wrap IntKind.u64 (restU (Cu.mk d p e a)) then sumU (Hd.mk v iu is l t ty c) s else (0:Int)))).length:Int)∧(0:Int)≤o3 (Hd.mk v iu is l t ty c) s∧o3 (Hd.mk v iu is l t ty c) s≤o4 (Hd.mk v iu is l t ty c) s∧o4 (Hd.mk v iu is l t ty c) s≤o4 (Hd.mk v iu is l t ty c) s∧o4 (Hd.mk v iu is l t ty c) s≤(↑(takeU (Cu.mk d p e a) (IntKind.wrap .i64 (if sumU (Hd.mk v iu is l t ty c) s≤IntKind.wrap IntKind.u64 (restU (Cu.mk d p e a)) then sumU (Hd.mk v iu is l t ty c) s else (0:Int)))).length:Int)∧(0:Int)≤o4 (Hd.mk v iu is l t ty c) s∧o4 (Hd.mk v iu is l t ty c) s≤o5 (Hd.mk v iu is l t ty c) s∧o5 (Hd.mk v iu is l t ty c) s≤o5 (Hd.mk v
 iu is l t ty c) s∧o5 (Hd.mk v iu is l t ty c) s≤(↑(takeU (Cu.mk d p e a) (IntKind.wrap .i64 (if sumU (Hd.mk v iu is l t ty c) s≤IntKind.wrap IntKind.u64 (restU (Cu.mk d p e a)) then sumU (Hd.mk v iu is l t ty c) s else (0:Int)))).length:Int)∧sz48 s∧(↑(List.take ((o5 (Hd.mk v iu is l t ty c) s).toNat - (o4 (Hd.mk v iu is l t ty c) s).toNat) (List.drop (o4 (Hd.mk v iu is l t ty c) s).toNat (takeU (Cu.mk d p e a) (IntKind.wrap .i64 (if sumU (Hd.mk v iu is l t ty c) s≤IntKind.wrap IntKind.u64 (restU (Cu.mk d p e a)) then sumU (Hd.mk v iu is l t ty c) s else (0:Int)))))).length:Int)≤big'∧K [.agg [AV.new (IV.ints IntKind.i64 (decI (List.take ((o1 (Hd.mk v iu is l t ty c) s).toNat - (0:Int).toNat) (List.drop (0:Int).toNat (takeU (Cu.mk d p e a) (IntKind.wrap .i64 (if sumU (Hd.mk v iu is l t ty c) s≤IntKind.wrap IntKind.u64 (restU (Cu.mk d p e a)) then sumU (Hd.mk v iu is l t ty c) s else (0:Int)))))) s.toNat ((List.take ((o1 (Hd.mk v iu is l t ty c) s).toNat - (0:Int).toNat) (List.drop (0:Int).toNat (takeU (Cu.mk d p e a) (IntKind.wrap .i64 (if sumU (Hd.mk v iu is l t ty c) s≤IntKind.wrap IntKind.u64 (restU (Cu.mk d p e a)) then sumU (Hd.mk v iu is l t
 ty c) s else (0:Int)))))).length / s.toNat))),.imm (.bytes (List.take ((o2 (Hd.mk v iu is l t ty c) s).toNat - (o1 (Hd.mk v iu is l t ty c) s).toNat) (List.drop (o1 (Hd.mk v iu is l t ty c) s).toNat (takeU (Cu.mk d p e a) (IntKind.wrap .i64 (if sumU (Hd.mk v iu is l t ty c) s≤IntKind.wrap IntKind.u64 (restU (Cu.mk d p e a)) then sumU (Hd.mk v iu is l t ty c) s else (0:Int))))))),AV.new (IV.sl (3:Nat) (List.map cellsT (dec (List.take ((o3 (Hd.mk v iu is l t ty c) s).toNat - (o2 (Hd.mk v iu is l t ty c) s).toNat) (List.drop (o2 (Hd.mk v iu is l t ty c) s).toNat (takeU (Cu.mk d p e a) (IntKind.wrap .i64 (if sumU (Hd.mk v iu is l t ty c) s≤IntKind.wrap IntKind.u64 (restU (Cu.mk d p e a)) then sumU (Hd.mk v iu is l t ty c) s else (0:Int))))))))),.imm (.bytes (List.take ((o4 (Hd.mk v iu is l t ty c) s).toNat - (o3 (Hd.mk v iu is l t ty c) s).toNat) (List.drop (o3 (Hd.mk v iu is l t ty c) s).toNat (takeU (Cu.mk d p e a) (IntKind.wrap .i64 (if sumU (Hd.mk v iu is l t ty c) s≤IntKind.wrap IntKind.u64 (restU (Cu.mk d p e a)) then sumU (Hd.mk v iu is l t ty c) s else (0:Int))))))),AV.new (IV.sl (2:Nat) (List.map cellsL (decL (List.take ((o5 (Hd.mk v iu is l t ty c)
 s).toNat - (o4 (Hd.mk v iu is l t ty c) s).toNat) (List.drop (o4 (Hd.mk v iu is l t ty c) s).toNat (takeU (Cu.mk d p e a) (IntKind.wrap .i64 (if sumU (Hd.mk v iu is l t ty c) s≤IntKind.wrap IntKind.u64 (restU (Cu.mk d p e a)) then sumU (Hd.mk v iu is l t ty c) s else (0:Int)))))) s.toNat ((List.take ((o5 (Hd.mk v iu is l t ty c) s).toNat - (o4 (Hd.mk v iu is l t ty c) s).toNat) (List.drop (o4 (Hd.mk v iu is l t ty c) s).toNat (takeU (Cu.mk d p e a) (IntKind.wrap .i64 (if sumU (Hd.mk v iu is l t ty c) s≤IntKind.wrap IntKind.u64 (restU (Cu.mk d p e a)) then sumU (Hd.mk v iu is l t ty c) s else (0:Int)))))).length / (s.toNat + 4))))),AV.new (IV.bools (decO (List.take ((o6 (Hd.mk v iu is l t ty c) s).toNat - (o5 (Hd.mk v iu is l t ty c) s).toNat) (List.drop (o5 (Hd.mk v iu is l t ty c) s).toNat (takeU (Cu.mk d p e a) (IntKind.wrap .i64 (if sumU (Hd.mk v iu is l t ty c) s≤IntKind.wrap IntKind.u64 (restU (Cu.mk d p e a)) then sumU (Hd.mk v iu is l t ty c) s else (0:Int)))))))),AV.new (IV.bools (decO (List.take ((o7 (Hd.mk v iu is l t ty c) s).toNat - (o6 (Hd.mk v iu is l t ty c) s).toNat) (List.drop (o6 (Hd.mk v iu is l t ty c) s).toNat (takeU (Cu.mk d p e a) (IntKind.wrap
 .i64 (if sumU (Hd.mk v iu is l t ty c) s≤IntKind.wrap IntKind.u64 (restU (Cu.mk d p e a)) then sumU (Hd.mk v iu is l t ty c) s else (0:Int))))))))],.agg [.imm (.bytes (Cu.d (advU (Cu.mk d p e a) (IntKind.wrap .i64 (if sumU (Hd.mk v iu is l t ty c) s≤IntKind.wrap IntKind.u64 (restU (Cu.mk d p e a)) then sumU (Hd.mk v iu is l t ty c) s else (0:Int)))))),.imm (.int .i64 (Cu.p (advU (Cu.mk d p e a) (IntKind.wrap .i64 (if sumU (Hd.mk v iu is l t ty c) s≤IntKind.wrap IntKind.u64 (restU (Cu.mk d p e a)) then sumU (Hd.mk v iu is l t ty c) s else (0:Int)))))),.imm (.int .i64 (Cu.e (advU (Cu.mk d p e a) (IntKind.wrap .i64 (if sumU (Hd.mk v iu is l t ty c) s≤IntKind.wrap IntKind.u64 (restU (Cu.mk d p e a)) then sumU (Hd.mk v iu is l t ty c) s else (0:Int)))))),.imm (.int .i64 (Cu.a (advU (Cu.mk d p e a) (IntKind.wrap .i64 (if sumU (Hd.mk v iu is l t ty c) s≤IntKind.wrap IntKind.u64 (restU (Cu.mk d p e a)) then sumU (Hd.mk v iu is l t ty c) s else (0:Int))))))]]))); let R2:Prop:=K [.agg [AV.new (IV.ints IntKind.i64 []),AV.new (IV.bytes []),AV.new (IV.sl (3:Nat) []),AV.new (IV.bytes []),AV.new (IV.sl (2:Nat) []),AV.new (IV.bools []),AV.new (IV.bools [])],
 .agg [.imm (.bytes d),.imm (.int .i64 p),.imm (.int .i64 e),.imm (.int .i64 a)]]; let R3:Prop:=(okU (Cu.mk d p e a)∧okH (Hd.mk v iu is l t ty c)∧sz48 s∧(0:Int)≤IntKind.wrap IntKind.u64 (restU (Cu.mk d p e a))∧IntKind.wrap IntKind.u64 (restU (Cu.mk d p e a))≤18446744073709551615∧brn (e != 0) ((R2∧R2)∧R2) R1); R3∧R3∧okU (Cu.mk d p e a)∧okH (Hd.mk v iu is l t ty c)∧sz48 s∧(0:Int)≤IntKind.wrap IntKind.u64 (restU (Cu.mk d p e a))∧IntKind.wrap IntKind.u64 (restU (Cu.mk d p e a))≤18446744073709551615∧brn (e != 0) ((R2∧R2)∧R2) R1):=by kernel_rfl
end Z19
namespace Z19
open Go Go.Proofs Go.RowKit Go.Lib
theorem add_calls (a b m:Int) (a0:0≤a) (a1:a≤18446744073709551615) (b0:0≤b) (b1:b≤18446744073709551615) (m0:0≤m) (m1:m≤18446744073709551615) (w:World) :
  Calls Tryd.prog 75 #[.int .u64 a,.int .u64 b,.int .u64 m] w fun e w'=>e = .returned (.tuple #[.int .u64 (if a + b≤m then a + b else 0),.bool (decide (a + b≤m))])∧w' = w:=by
 have h84:=@run_callFunc_extern Tryd.prog 84 _ add64Entry Tryd.func84 (by kernel_rfl) (by kernel_rfl) (by kernel_rfl) (by kernel_rfl)
 have hr:=run_add64 (P:=Tryd.prog) a b 0 a0 b0 (by decide) (by decide) w
 rw [Int.add_zero] at hr
 go_enter Tryd.func75,Tryd.ntmps75
 by_cases h:a + b < 18446744073709551616
 ·have e1:(a + b) % 18446744073709551616 = a + b:=by omega
  have e2:(a + b) / 18446744073709551616 = 0:=by omega
  rw [e1,e2] at hr
  by_cases hm:a + b≤m
  ·have hg:¬ (a + b > m):=by omega
   go_wp2
   go_ret2
   simp [hm]
  ·have hg:a + b > m:=by omega
   go_wp2
   go_ret2
   simp [hm]
 ·have e2:(a + b) / 18446744073709551616 = 1:=by omega
  have hm:¬ (a + b≤m):=by omega
  rw [e2] at hr
  go_wp2
  go_ret2
  simp [hm]
theorem grow_none (a:Option Addr) (w:World):Calls Tryd.prog 71 #[.slice a 0 0,.int .i64 0] w fun e w'=>e = .returned (.slice a 0 0)∧w' = w:=by
 go_enter Tryd.func71,Tryd.ntmps71
 go_wp2
 go_ret
 exact ⟨rfl,rfl⟩
set_option maxHeartbeats 4000000 in
set_option maxRecDepth 100000 in
theorem grow_some (a:Option Addr) (n:Nat) (h0:0 < n) (hb:n≤140737488355328) (w:World) :
  Calls Tryd.prog 71 #[.slice a 0 0,.int .i64 (n:Int)] w fun e w'=>e = .returned (.slice (some ⟨w.heap.size,0,none⟩) 0 (grownCap w n 0 5)) ∧
   w' = w.drew.alloc (.cells (#[] ++ Builtin.zeroCells (Value.int .u8 0).cells n ++ Builtin.zeroCells (Value.int .u8 0).cells (grownCap w n 0 5 - n)) 5):=by
 obtain ⟨i0,hi0,hz0,hs1,hb1⟩:∃ i0:TypeInfo,Tryd.prog.info? 5 = some i0∧i0.zero = some (.int .u8 0)∧i0.size = 1∧i0.bytes = 1:=⟨_,rfl,rfl,rfl,rfl⟩
 have hold:(Builtin.firstCells i0.size 0 (.slice a 0 0)).run Tryd.prog w.drew = .ok ([]:List Value).toArray w.drew:=by
  cases a with
  | none=>exact run_firstCells_none w.drew i0.size 0 0 0
  | some a=>exact run_firstCells_some w.drew i0.size 0 a 0 0 [] (by simp) (fun j v hj=>by simp at hj)
 have hrz:∀ ty,(Builtin.append_ #[22,3] ty #[.slice a 0 0,.int .i64 (n:Int)]).run Tryd.prog w =
   .ok (.slice (some ⟨w.heap.size,0,none⟩) n (grownCap w n 0 5)) (w.drew.alloc (.cells (#[] ++ Builtin.zeroCells (Value.int .u8 0).cells n ++ Builtin.zeroCells (Value.int .u8 0).cells (grownCap w n 0 5 - n)) 5)):=fun ty=>by
  have h:=Lib.run_append_grow_zeros w 22 3 ty 5 i0 (.int .u8 0) .i64 .i64 Tryd.underlying22 Tryd.underlying3 hi0 hz0 a 0 0 [] hold n h0 (by omega) (by omega) (by omega) (by rw [hb1]; omega) (by rw [hb1]; exact growslice_fits (by omega) (by omega))
  rw [Nat.zero_add] at h
  exact h
 have hG:=grownCap_ge w n 0 5
 have hG63:=grownCap_le_maxLen w n 0 5 (by unfold maxLen; omega)
 unfold maxLen at hG63
 generalize hg:grownCap w n 0 5 = G at hrz hG hG63 ⊢
 have h1:¬ ((n:Int) < 0):=by omega
 have h2:wrap64 ((n:Int) - 0) = (n:Int):=by unfold wrap64; omega
 have h4:(n:Int) > 0:=by omega
 clear hold hg
 go_enter Tryd.func71,Tryd.ntmps71
 cases a with
 | none =>
  go_wp2_with (at_builtin; refine Lib.wpList_append_run _ rfl _ _ _ _ rfl _ _ rfl rfl _ _ (hrz _) ?_)
  all_goals (go_ret; exact ⟨rfl,rfl⟩)
 | some a =>
  obtain ⟨ab,ao,asp⟩:=a
  go_wp2_with (at_builtin; refine Lib.wpList_append_run _ rfl _ _ _ _ rfl _ _ rfl rfl _ _ (hrz _) ?_)
  all_goals (go_ret; exact ⟨rfl,rfl⟩)
end Z19
namespace D6
open Go Go.Proofs Go.RowKit Go.Extern.Stop Go.Stop Go.Extern
theorem as_nil (t:Value) (w:World) :
  Calls Tryd.prog 67 #[.nilIface,t] w fun e w'=>e = .returned (.bool false)∧w' = w:=by
 go_enter Tryd.func67,Tryd.ntmps67
 go_wp2
 go_ret
 exact ⟨rfl,rfl⟩
def hv (t:Nat):Value:=.agg #[.pointer (some ⟨2,t,none⟩)]
theorem valueOf46 (t:Addr) (w:World):(ReflectliteValue.unpack (.iface 99 (.pointer (some t)))).run Tryd.prog w
  = .ok (.agg #[.pointer (some ⟨2,99,none⟩),.pointer (some ⟨w.heap.size,0,none⟩),.int .u64 150]) (w.alloc (.cells #[.pointer (some t)] 99)):=by kernel_rfl
theorem valueOf44 (x:Int) (w:World):(ReflectliteValue.unpack (.iface 97 (.int .u8 x))).run Tryd.prog w
  = .ok (.agg #[.pointer (some ⟨2,97,none⟩),.pointer (some ⟨w.heap.size,0,none⟩),.int .u64 136]) (w.alloc (.cells #[.int .u8 x] 97)):=by kernel_rfl
theorem type46 (a:Addr) (w:World):(ReflectliteValue.methodAny (ReflectliteValue.valueError "reflectlite.Value.Type" 0) (fun t _ _ _=>ReflectliteType.toType t) #[.agg #[.pointer (some ⟨2,99,none⟩),.pointer (some a),.int .u64 150]]).run Tryd.prog w
  = .ok (.iface 130 (.agg #[.pointer (some ⟨2,99,none⟩)])) w:=by kernel_rfl
theorem kind46 (w:World):((ReflectliteType.abiMethod fun t=>(fun a:Nat=>Value.int IntKind.u8 (a:Int)) <$> Rtype.kind t) #[.pointer (some ⟨2,99,none⟩)]).run Tryd.prog w = .ok (.int .u8 22) w:=by kernel_rfl
theorem kind44 (w:World):((ReflectliteType.abiMethod fun t=>(fun a:Nat=>Value.int IntKind.u8 (a:Int)) <$> Rtype.kind t) #[.pointer (some ⟨2,97,none⟩)]).run Tryd.prog w = .ok (.int .u8 8) w:=by kernel_rfl
theorem elem46 (w:World):(ReflectliteType.method ReflectliteType.elem #[.agg #[.pointer (some ⟨2,99,none⟩)]]).run Tryd.prog w = .ok (.iface 130 (.agg #[.pointer (some ⟨2,97,none⟩)])) w:=by kernel_rfl
theorem implements44 (w:World):(ReflectliteType.relation "Implements" ReflectliteType.implements_ #[.agg #[.pointer (some ⟨2,97,none⟩)],.iface 130 (.agg #[.pointer (some ⟨2,94,none⟩)])]).run Tryd.prog w = .ok (.bool true) w:=by kernel_rfl
theorem typeOf44 (v:Value) (w:World):(ReflectliteType.typeOf #[.iface 97 v]).run Tryd.prog w = .ok (.iface 130 (.agg #[.pointer (some ⟨2,97,none⟩)])) w:=by kernel_rfl
theorem typeOf69 (v:Value) (w:World):(ReflectliteType.typeOf #[.iface 126 v]).run Tryd.prog w = .ok (.iface 130 (.agg #[.pointer (some ⟨2,126,none⟩)])) w:=by kernel_rfl
theorem assign44 (w:World):(ReflectliteType.relation "AssignableTo" ReflectliteType.assignableTo #[.agg #[.pointer (some ⟨2,97,none⟩)],.iface 130 (.agg #[.pointer (some ⟨2,97,none⟩)])]).run Tryd.prog w = .ok (.bool true) w:=by kernel_rfl
theorem assign69 (w:World):(ReflectliteType.relation "AssignableTo" ReflectliteType.assignableTo #[.agg #[.pointer (some ⟨2,126,none⟩)],.iface 130 (.agg #[.pointer (some ⟨2,97,none⟩)])]).run Tryd.prog w = .ok (.bool false) w:=by kernel_rfl
theorem methodKind (h:Value) (w:World):(Go.method 271 130 (.agg #[h]) "Kind").run Tryd.prog w = .ok (102,h) w:=by kernel_rfl
theorem methodElem (h:Value) (w:World):(Go.method 271 130 (.agg #[h]) "Elem").run Tryd.prog w = .ok (114,.agg #[h]) w:=by kernel_rfl
theorem methodImplements (h:Value) (w:World):(Go.method 271 130 (.agg #[h]) "Implements").run Tryd.prog w = .ok (115,.agg #[h]) w:=by kernel_rfl
theorem methodAssignableTo (h:Value) (w:World):(Go.method 271 130 (.agg #[h]) "AssignableTo").run Tryd.prog w = .ok (112,.agg #[h]) w:=by kernel_rfl
theorem rlm (z:Sem Value) (f:TypeId→Addr→Nat→Nat→Sem Value) (v:Value):ReflectliteValue.method z f #[v] = (do match ← ReflectliteValue.parts v with | none=>z | some (t,a,fl)=>f t a fl (fl % 32)):=rfl theorem parts46 (a:Addr) (w:World):(ReflectliteValue.parts (.agg #[.pointer (some ⟨2,99,none⟩),.pointer (some a),.int .u64 150])).run Tryd.prog w = .ok (some (99,a,150)) w:=by kernel_rfl
theorem isNil46 (a p:Addr) (W:World) (ha:W.cell? a = some (.pointer (some p))) :
  (ReflectliteValue.method (ReflectliteValue.valueError "reflectlite.Value.IsNil" 0) ReflectliteValue.isNil #[.agg #[.pointer (some ⟨2,99,none⟩),.pointer (some a),.int .u64 150]]).run Tryd.prog W = .ok (.bool false) W:=by
 rw [rlm]
 simp only [Sem.run_bind,parts46,Result.andThen]
 simp [ReflectliteValue.isNil,loadVar,isAgg,underlying,Tryd.underlying99,ha,Result.andThen]
theorem elemOf46 (w:World):(Rtype.elem? 99).run Tryd.prog w = .ok (some 97) w:=by kernel_rfl
theorem mk44 (p:Addr) (w:World):(ReflectliteValue.mk 97 p ReflectliteValue.flagAddr).run Tryd.prog w = .ok (.agg #[.pointer (some ⟨2,97,none⟩),.pointer (some p),.int .u64 392]) w:=by kernel_rfl
theorem elemV46 (a p:Addr) (W:World) (ha:W.cell? a = some (.pointer (some p))) :
  (ReflectliteValue.method (ReflectliteValue.valueError "reflectlite.Value.Elem" 0) ReflectliteValue.elem #[.agg #[.pointer (some ⟨2,99,none⟩),.pointer (some a),.int .u64 150]]).run Tryd.prog W
   = .ok (.agg #[.pointer (some ⟨2,97,none⟩),.pointer (some p),.int .u64 392]) W:=by
 rw [rlm]
 simp only [Sem.run_bind,parts46,Result.andThen]
 simp [ReflectliteValue.elem,loadVar,isAgg,underlying,Tryd.underlying99,ha,Result.andThen,elemOf46,mk44]
theorem rls (v x:Value):ReflectliteValue.set #[v,x] = (do
  let (some (dst,a,fl),some (src,b,_)):=(← ReflectliteValue.parts v,← ReflectliteValue.parts x)
   | unsupported (.noEntry "extern/(internal/reflectlite.Value).Set.zeroValue")
  if fl / ReflectliteValue.flagAddr % 2 == 0 then unsupported (.noEntry "extern/(internal/reflectlite.Value).Set.unaddressable")
  let val ← loadVar src b
  if ← Rtype.directlyAssignable dst src then storeVar dst a val
  else if ← Rtype.implements dst src then
   if (← Rtype.kind src) == 20 then
    match val with
    | .nilIface=>unsupported (.noEntry "extern/reflectlite: a nil value of one interface type handed on as a value of another")
    | _=>storeVar dst a val
   else storeVar dst a (.iface src val)
  else panicString ("reflectlite.Set: value of type " ++ (← Rtype.spelt src) ++ " is not assignable to type " ++ (← Rtype.spelt dst))
  pure (.tuple #[])):=rfl
theorem parts44a (a:Addr) (w:World):(ReflectliteValue.parts (.agg #[.pointer (some ⟨2,97,none⟩),.pointer (some a),.int .u64 392])).run Tryd.prog w = .ok (some (97,a,392)) w:=by kernel_rfl
theorem parts44 (a:Addr) (w:World):(ReflectliteValue.parts (.agg #[.pointer (some ⟨2,97,none⟩),.pointer (some a),.int .u64 136])).run Tryd.prog w = .ok (some (97,a,136)) w:=by kernel_rfl
theorem direct44 (w:World):(Rtype.directlyAssignable 97 97).run Tryd.prog w = .ok true w:=by kernel_rfl
theorem set44 (ta b:Addr) (x:Int) (old:Value) (W:World) (hb:W.cell? b = some (.int .u8 x)) (ht:W.cell? ta = some old) (hf:W.frozen? ta = false) :
  (ReflectliteValue.set #[.agg #[.pointer (some ⟨2,97,none⟩),.pointer (some ta),.int .u64 392],.agg #[.pointer (some ⟨2,97,none⟩),.pointer (some b),.int .u64 136]]).run Tryd.prog W
   = .ok (.tuple #[]) (W.setCell ta (.int .u8 x)):=by
 rw [rls]
 simp only [Sem.run_bind,parts44a,parts44,Result.andThen]
 simp [ReflectliteValue.flagAddr,loadVar,isAgg,underlying,Tryd.underlying97,hb,Result.andThen,direct44,storeVar,Value.cells,storeCells,Addr.add]
 rw [run_store Tryd.prog W ta _ _ (by rfl)]
 simp [ht,hf]
end D6
namespace D6
open Go Go.Proofs Go.RowKit Go.Extern.Stop Go.Stop Go.Extern
set_option maxRecDepth 100000 in
set_option maxHeartbeats 4000000 in
theorem as_flag (x:Int) (t pv:Addr) (old:Value) (w:World) (hpv:w.cell? pv = some (.pointer (some t))) (ht:w.cell? t = some old) (hf:w.frozen? t = false) :
  Calls Tryd.prog 80 #[.iface 97 (.int .u8 x),.iface 99 (.pointer (some t)),.agg #[.pointer (some ⟨2,99,none⟩),.pointer (some pv),.int .u64 150],.iface 130 (.agg #[.pointer (some ⟨2,97,none⟩)])] w fun e w' =>
   e = .returned (.bool true)∧w' = ((w.alloc (.cells #[.pointer (some ⟨2,99,none⟩),.pointer (some pv),.int .u64 150] 111)).alloc (.cells #[.int .u8 x] 97)).setCell t (.int .u8 x):=by
 have h32:=@run_callFunc_extern Tryd.prog 85 _ ReflectliteType.typeOf Tryd.func85 (by kernel_rfl) (by kernel_rfl) (by kernel_rfl) (by kernel_rfl)
 have h59:=@run_callFunc_extern Tryd.prog 112 _ (ReflectliteType.relation "AssignableTo" ReflectliteType.assignableTo) Tryd.func112 (by kernel_rfl) (by kernel_rfl) (by kernel_rfl) (by kernel_rfl)
 have h33:=@run_callFunc_extern Tryd.prog 86 _ (ReflectliteValue.method (ReflectliteValue.valueError "reflectlite.Value.Elem" 0) ReflectliteValue.elem) Tryd.func86 (by kernel_rfl) (by kernel_rfl) (by kernel_rfl) (by kernel_rfl)
 have h25:=@run_callFunc_extern Tryd.prog 77 _ (fun args=>ReflectliteValue.unpack (args.getD 0 (.tuple #[]))) Tryd.func77 (by kernel_rfl) (by kernel_rfl) (by kernel_rfl) (by kernel_rfl)
 have h34:=@run_callFunc_extern Tryd.prog 87 _ ReflectliteValue.set Tryd.func87 (by kernel_rfl) (by kernel_rfl) (by kernel_rfl) (by kernel_rfl)
 have tO:=typeOf44
 have mA:=methodAssignableTo
 have a44:=assign44
 have v44:=valueOf44
 have hpl:pv.block < w.heap.size:=by
  rcases Nat.lt_or_ge pv.block w.heap.size with h | h
  ·exact h
  ·simp [World.cell?,Array.getElem?_eq_none h] at hpv
 have htl:t.block < w.heap.size:=by
  rcases Nat.lt_or_ge t.block w.heap.size with h | h
  ·exact h
  ·simp [World.cell?,Array.getElem?_eq_none h] at ht
 have el:=elemV46 pv t (w.alloc (.cells #[.pointer (some ⟨2,99,none⟩),.pointer (some pv),.int .u64 150] 111)) (by rw [World.cell?_alloc_lt _ _ pv hpl]; exact hpv)
 have st:=set44 t ⟨w.heap.size + 1,0,none⟩ x old ((w.alloc (.cells #[.pointer (some ⟨2,99,none⟩),.pointer (some pv),.int .u64 150] 111)).alloc (.cells #[.int .u8 x] 97))
  (by rw [World.cell?_alloc_at _ _ _ _ (by simp)]; rfl)
  (by rw [World.cell?_alloc_lt _ _ t (by simp; omega),World.cell?_alloc_lt _ _ t htl]; exact ht)
  (by rw [World.frozen?_alloc_old _ _ t (by simp; omega),World.frozen?_alloc_old _ _ t (Nat.ne_of_lt htl)]; exact hf)
 go_enter Tryd.func80,Tryd.ntmps80
 go_wp2
 refine wp_loop_rounds 1 ?_
 rw [rounds_succ]
 go_wp2
 go_ret
 exact ⟨rfl,rfl⟩
end D6
namespace D6
open Go Go.Proofs Go.RowKit Go.Extern.Stop Go.Stop Go.Extern
theorem no69_78 (v:Value) (xT:TypeId) (w:World):(Instr.typeAssert (.iface 126 v) xT 135 true).run Tryd.prog w = .ok (.tuple #[.nilIface,.bool false]) w:=run_typeAssert_lacksB Tryd.underlying135 (by kernel_rfl) (by kernel_rfl) v xT w
theorem no69_81 (v:Value) (xT:TypeId) (w:World):(Instr.typeAssert (.iface 126 v) xT 138 true).run Tryd.prog w = .ok (.tuple #[.nilIface,.bool false]) w:=run_typeAssert_lacksB Tryd.underlying138 (by kernel_rfl) (by kernel_rfl) v xT w
theorem is69_83 (v:Value) (xT:TypeId) (w:World):(Instr.typeAssert (.iface 126 v) xT 140 true).run Tryd.prog w = .ok (.tuple #[.iface 126 v,.bool true]) w:=run_typeAssert_hasB Tryd.underlying140 (by kernel_rfl) v xT w
theorem methodUnwrap (v:Value) (w:World):(Go.method 271 126 v "Unwrap").run Tryd.prog w = .ok (110,v) w:=by kernel_rfl
theorem unwrap (pe a:Addr) (cap:Nat) (w:World) (he:w.cell? pe = some (.slice (some a) 1 cap)) :
  Calls Tryd.prog 110 #[.pointer (some pe)] w fun e w'=>e = .returned (.slice (some a) 1 cap)∧w' = w:=by
 go_enter Tryd.func110,Tryd.ntmps110
 go_wp2
 go_ret
 exact ⟨rfl,rfl⟩
set_option maxRecDepth 100000 in
set_option maxHeartbeats 4000000 in
theorem as_join (x:Int) (pe a t pv:Addr) (cap:Nat) (old:Value) (w:World) (he:w.cell? pe = some (.slice (some a) 1 cap)) (ha:w.cell? a = some (.iface 97 (.int .u8 x))) (hpv:w.cell? pv = some (.pointer (some t))) (ht:w.cell? t = some old) (hf:w.frozen? t = false) :
  Calls Tryd.prog 80 #[.iface 126 (.pointer (some pe)),.iface 99 (.pointer (some t)),.agg #[.pointer (some ⟨2,99,none⟩),.pointer (some pv),.int .u64 150],.iface 130 (.agg #[.pointer (some ⟨2,97,none⟩)])] w fun e w' =>
   e = .returned (.bool true)∧w' = (((w.alloc (.cells #[.pointer (some ⟨2,99,none⟩),.pointer (some pv),.int .u64 150] 111)).alloc (.cells #[.pointer (some ⟨2,99,none⟩),.pointer (some pv),.int .u64 150] 111)).alloc (.cells #[.int .u8 x] 97)).setCell t (.int .u8 x):=by
 have h32:=@run_callFunc_extern Tryd.prog 85 _ ReflectliteType.typeOf Tryd.func85 (by kernel_rfl) (by kernel_rfl) (by kernel_rfl) (by kernel_rfl)
 have h59:=@run_callFunc_extern Tryd.prog 112 _ (ReflectliteType.relation "AssignableTo" ReflectliteType.assignableTo) Tryd.func112 (by kernel_rfl) (by kernel_rfl) (by kernel_rfl) (by kernel_rfl)
 have tO:=typeOf69
 have mA:=methodAssignableTo
 have a69:=assign69
 have n78:=no69_78
 have n81:=no69_81
 have i83:=is69_83
 have mU:=methodUnwrap
 go_enter Tryd.func80,Tryd.ntmps80
 have hel:pe.block < w.heap.size:=by
  rcases Nat.lt_or_ge pe.block w.heap.size with h | h
  ·exact h
  ·simp [World.cell?,Array.getElem?_eq_none h] at he
 have hal:a.block < w.heap.size:=by
  rcases Nat.lt_or_ge a.block w.heap.size with h | h
  ·exact h
  ·simp [World.cell?,Array.getElem?_eq_none h] at ha
 have hpl:pv.block < w.heap.size:=by
  rcases Nat.lt_or_ge pv.block w.heap.size with h | h
  ·exact h
  ·simp [World.cell?,Array.getElem?_eq_none h] at hpv
 have htl:t.block < w.heap.size:=by
  rcases Nat.lt_or_ge t.block w.heap.size with h | h
  ·exact h
  ·simp [World.cell?,Array.getElem?_eq_none h] at ht
 have he1:(w.alloc (.cells #[.pointer (some ⟨2,99,none⟩),.pointer (some pv),.int .u64 150] 111)).cell? pe = some (.slice (some a) 1 cap):=by rw [World.cell?_alloc_lt _ _ pe hel]; exact he
 have ha1:(w.alloc (.cells #[.pointer (some ⟨2,99,none⟩),.pointer (some pv),.int .u64 150] 111)).cell? a = some (.iface 97 (.int .u8 x)):=by rw [World.cell?_alloc_lt _ _ a hal]; exact ha
 have hp1:(w.alloc (.cells #[.pointer (some ⟨2,99,none⟩),.pointer (some pv),.int .u64 150] 111)).cell? pv = some (.pointer (some t)):=by rw [World.cell?_alloc_lt _ _ pv hpl]; exact hpv
 have ht1:(w.alloc (.cells #[.pointer (some ⟨2,99,none⟩),.pointer (some pv),.int .u64 150] 111)).cell? t = some old:=by rw [World.cell?_alloc_lt _ _ t htl]; exact ht
 have hf1:(w.alloc (.cells #[.pointer (some ⟨2,99,none⟩),.pointer (some pv),.int .u64 150] 111)).frozen? t = false:=by rw [World.frozen?_alloc_old _ _ t (Nat.ne_of_lt htl)]; exact hf
 go_wp2_with fail
 refine wp_loop_rounds 1 ?_
 rw [rounds_succ]
 go_wp2_with fail
 refine (unwrap pe a cap _ he1).mono ?_
 rintro e w' ⟨rfl,rfl⟩
 go_wp2_with fail
 refine wp_loop_rounds 1 ?_
 rw [rounds_succ]
 go_wp2_with fail
 refine (as_flag x t pv old _ hp1 ht1 hf1).mono ?_
 rintro e w' ⟨rfl,rfl⟩
 go_wp2_with fail
 go_ret
 exact ⟨rfl,rfl⟩
end D6
namespace D6
open Go Go.Proofs Go.RowKit Go.Extern.Stop Go.Stop Go.Extern
theorem cell_lt {w:World} {a:Addr} {v:Value} (h:w.cell? a = some v):a.block < w.heap.size:=by
 rcases Nat.lt_or_ge a.block w.heap.size with h1 | h1
 ·exact h1
 ·simp [World.cell?,Array.getElem?_eq_none h1] at h
noncomputable def wAs (t:Addr) (w:World):World:=(w.alloc (.cells #[.pointer (some t)] 99)).alloc (.cells #[.pointer (some ⟨2,99,none⟩),.pointer (some ⟨w.heap.size,0,none⟩),.int .u64 150] 111)
noncomputable def wHit (x:Int) (t:Addr) (w:World):World:=((((wAs t w).alloc (.cells #[.pointer (some ⟨2,99,none⟩),.pointer (some ⟨w.heap.size,0,none⟩),.int .u64 150] 111)).alloc (.cells #[.pointer (some ⟨2,99,none⟩),.pointer (some ⟨w.heap.size,0,none⟩),.int .u64 150] 111)).alloc (.cells #[.int .u8 x] 97)).setCell t (.int .u8 x)
set_option maxRecDepth 100000 in
set_option maxHeartbeats 4000000 in
theorem as_hit (x:Int) (pe a t:Addr) (cap:Nat) (old:Value) (w:World) (he:w.cell? pe = some (.slice (some a) 1 cap)) (ha:w.cell? a = some (.iface 97 (.int .u8 x))) (ht:w.cell? t = some old) (hf:w.frozen? t = false)
  (hg:w.cell? ⟨1,0,none⟩ = some (.iface 130 (.agg #[.pointer (some ⟨2,94,none⟩)]))) :
  Calls Tryd.prog 67 #[.iface 126 (.pointer (some pe)),.iface 99 (.pointer (some t))] w fun e w'=>e = .returned (.bool true)∧w' = wHit x t w:=by
 have h25:=@run_callFunc_extern Tryd.prog 77 _ (fun args=>ReflectliteValue.unpack (args.getD 0 (.tuple #[]))) Tryd.func77 (by kernel_rfl) (by kernel_rfl) (by kernel_rfl) (by kernel_rfl)
 have h26:=@run_callFunc_extern Tryd.prog 78 _ (ReflectliteValue.methodAny (ReflectliteValue.valueError "reflectlite.Value.Type" 0) (fun t _ _ _=>ReflectliteType.toType t)) Tryd.func78 (by kernel_rfl) (by kernel_rfl) (by kernel_rfl) (by kernel_rfl)
 have h27:=@run_callFunc_extern Tryd.prog 79 _ (ReflectliteValue.method (ReflectliteValue.valueError "reflectlite.Value.IsNil" 0) ReflectliteValue.isNil) Tryd.func79 (by kernel_rfl) (by kernel_rfl) (by kernel_rfl) (by kernel_rfl)
 have h49:=@run_callFunc_extern Tryd.prog 102 _ (ReflectliteType.abiMethod fun t=>do pure (.int .u8 (← Rtype.kind t))) Tryd.func102 (by kernel_rfl) (by kernel_rfl) (by kernel_rfl) (by kernel_rfl)
 have h61:=@run_callFunc_extern Tryd.prog 114 _ (ReflectliteType.method ReflectliteType.elem) Tryd.func114 (by kernel_rfl) (by kernel_rfl) (by kernel_rfl) (by kernel_rfl)
 have h62:=@run_callFunc_extern Tryd.prog 115 _ (ReflectliteType.relation "Implements" ReflectliteType.implements_) Tryd.func115 (by kernel_rfl) (by kernel_rfl) (by kernel_rfl) (by kernel_rfl)
 have f6:=valueOf46
 have f7:=type46
 have mK:=methodKind
 have mE:=methodElem
 have mI:=methodImplements
 have k46:=kind46
 have k44:=kind44
 have e46:=elem46
 have i44:=implements44
 have n8:=isNil46 ⟨w.heap.size,0,none⟩ t (wAs t w) (by unfold wAs; simp)
 have old2:∀ (p:Addr),p.block < w.heap.size→(wAs t w).cell? p = w.cell? p:=fun p hp=>by
  unfold wAs
  rw [World.cell?_alloc_lt _ _ p (by simp; omega),World.cell?_alloc_lt _ _ p hp]
 have hg2:(wAs t w).cell? ⟨1,0,none⟩ = some (.iface 130 (.agg #[.pointer (some ⟨2,94,none⟩)])):=by rw [old2 _ (cell_lt hg)]; exact hg
 have hj:=as_join x pe a t ⟨w.heap.size,0,none⟩ cap old (wAs t w) (by rw [old2 _ (cell_lt he)]; exact he) (by rw [old2 _ (cell_lt ha)]; exact ha) (by unfold wAs; simp) (by rw [old2 _ (cell_lt ht)]; exact ht)
  (by unfold wAs; rw [World.frozen?_alloc_old _ _ t (by have:=cell_lt ht; simp; omega),World.frozen?_alloc_old _ _ t (Nat.ne_of_lt (cell_lt ht))]; exact hf)
 unfold wHit
 unfold wAs at n8 hg2 hj ⊢
 go_enter Tryd.func67,Tryd.ntmps67
 go_wp2_with fail
 refine hj.mono ?_
 rintro e w' ⟨rfl,rfl⟩
 go_wp2_with fail
 go_ret
 exact ⟨rfl,rfl⟩
end D6
namespace D6
open Go Go.AE Go.Proofs Go.RowKit
theorem flagOf_spec {c:IV} {x:Int} (h:flagOf c = some x):c = .sl 1 [[.iface 97 (.int .u8 x)]]:=by
 unfold flagOf at h
 split at h
 ·rename_i n t x'
  obtain ⟨h1,h⟩:=bif_some h
  obtain ⟨h2,h⟩:=bif_some h
  cases h
  rw [nbeq h1,nbeq h2]
 ·cases h
variable {b0:Nat} {w0:World} {g:Gh} {st:St}
theorem cells_one {G:Nat→Option (List AV)} {next:Nat} {objs:List (Nat×Ob)} {i:Nat} {own:Bool} {ver b:Nat} {c:AV} (hM:Mem G b0 w0 objs next g) (h:lookup objs i = some ⟨own,ver,.cells [c]⟩) (hp:g.ρ i = .pointer (some ⟨b,0,none⟩)) :
  ∃ V T fr,g.ex i = true∧g.w.heap[b]? = some (.cells #[V] T fr)∧Free #[V] fr∧ARep g c V∧g.w.cell? ⟨b,0,none⟩ = some V∧b0≤b∧(ver = 0∨ver = T + 1):=by
 have hl:lookup g.objs i = some ⟨own,ver,.cells [c]⟩:=by rw [hM.same]; exact h
 have ho:=hM.each i _ hl
 rw [hp] at ho
 generalize hex:g.ex i = ee at ho
 cases ho with
 | @cells _ _ _ _ cc T fr k1 k2 k3 k4 k5 k6 k7 =>
  subst k1
  have hs:cc.size = 1:=k4
  obtain ⟨V,rfl⟩:∃ V,cc = #[V]:=by
   match cc,hs with
   | ⟨[V]⟩,_=>exact ⟨V,rfl⟩
  refine ⟨V,T,fr,rfl,k2,k3,k5 0 c rfl,by simp [World.cell?,k2],(hM.above i b (by rw [hl]; rfl) hex (by rw [hp]; rfl)).1,k7⟩
theorem sem16 {E:FuncId→List AV→Option (List Prop×List AV)} {call:FuncId→List AV→St→(AV→St→Prop)→(AV→St→Prop)→Prop} {u:Nat} {args:List AV} {k kp:AV→St→Prop} {vals:Array Value}
  (h:asCall st k args) (hM:Mem G16 b0 w0 st.objs st.next g) (hs:vals.size = args.length) (ha:∀ (j:Nat) c,args[j]? = some c→ARep g c (vals.getD j undef)) :
  Calls Tryd.prog 67 vals g.w (CallDone ⟨Tryd.prog,E,call,G16,u⟩ b0 w0 st g k kp):=by
 have two:∀ {x y:AV},args = [x,y]→∃ X Y,vals = #[X,Y]∧ARep g x X∧ARep g y Y:=by
  intro x y e
  subst e
  have hs':vals.size = 2:=hs
  match vals,hs' with
  | ⟨[X,Y]⟩,_=>exact ⟨X,Y,rfl,ha 0 x rfl,ha 1 y rfl⟩
 unfold asCall at h
 split at h
 case h_3=>exact h.elim
 ·rename_i t p off
  obtain ⟨X,Y,rfl,rX,rY⟩:=two rfl
  obtain ⟨_,h⟩:=bif_prop h
  obtain ⟨_,h⟩:=bif_prop h
  obtain rfl:=rep_val rX.imm_inv
  refine (as_nil Y g.w).mono ?_
  rintro e w' ⟨rfl,rfl⟩
  exact .inl ⟨_,st,g,_,rfl,h,hM,rfl,Step.refl _ _,.imm .bool⟩
 ·rename_i u' i o t j off
  obtain ⟨X,Y,rfl,rX,rY⟩:=two rfl
  obtain ⟨ht,h⟩:=bif_prop h
  obtain ⟨hu,h⟩:=bif_prop h
  obtain ⟨ho,h⟩:=bif_prop h
  obtain ⟨hf,h⟩:=bif_prop h
  have ht:=nbeq ht
  have hu:=nbeq hu
  have ho:=nbeq ho
  have hf:=nbeq hf
  subst ht hu ho hf
  split at h
  case h_2=>exact h.elim
  rename_i own1 ver1 r v own ver c0 hi hj
  split at h
  case h_2=>exact h.elim
  rename_i c hc
  split at h
  case h_2=>exact h.elim
  rename_i x hx
  have hcs:=flagOf_spec hx
  subst hcs
  cases rX with
  | ifc rX =>
  cases rY with
  | ifc rY =>
  cases rX with
  | @ptr _ _ bi obi qi1 qi2 =>
  cases rY with
  | @ptr _ _ bj obj qj1 qj2 =>
  obtain ⟨Vi,Ti,fri,_,_,_,hri,hci,_⟩:=cells_one hM hi qi2
  obtain ⟨Vj,Tj,frj,hexj,hhj,hfrj,_,hcj,hbj,hvj⟩:=cells_one hM hj qj2
  rcases content_cells (C:=⟨Tryd.prog,E,call,G16,u⟩) hM hc hri rfl rfl with ⟨_,_,h0⟩ | ⟨ad,cap,vs,rfl,p1,p2,p3,p4,p5,p6⟩
  ·cases h0
  have hca:(IV.sl 1 [[.iface 97 (.int .u8 x)]]).cellAt 0 0 = some (.iface 97 (.int .u8 x)):=rfl
  have e1:=p5 0 0 _ hca
  have e2:=p6 0 0 _ hca
  have e3:∃ V,vs 0 0 = .iface 97 V∧Rep g.w g.own (.int .u8 x) V:=by
   generalize vs 0 0 = Z at e2
   cases e2 with
   | iface hq=>exact ⟨_,rfl,hq⟩
   | nilSlice hq _=>simp [IV.isSl] at hq
   | slice _ hq=>simp [IV.isSl] at hq
  obtain ⟨V,hv0,hq⟩:=e3
  obtain ⟨rfl,hin⟩:=rep_int hq
  rw [hv0] at e1
  have e1':g.w.cell? ad = some (.iface 97 (.int .u8 x)):=by
   rw [← e1]
   show _ = g.w.cell? (ad.add 0)
   simp [Addr.add]
  have hg:g.w.cell? ⟨1,0,none⟩ = some (.iface 130 (.agg #[.pointer (some ⟨2,94,none⟩)])):=by
   obtain ⟨_,c,T,fr,q1,q2,q3,_⟩:=hM.glob 1 _ rfl
   have hz:=q3 0 _ rfl
   have hz':Rep g.w g.own (.val errT) (c.getD 0 undef):=hz
   have hz1:=rep_val hz'
   have:c.size = 1:=q2
   match c,this with
   | ⟨[Z]⟩,_ =>
    have:Z = errT:=hz1
    subst this
    simp [World.cell?,q1]
    rfl
  refine (as_hit x ⟨bi,0,none⟩ ad ⟨bj,0,none⟩ cap Vj g.w hci e1' hcj (not_frozen hhj hfrj (by simp)) hg).mono ?_
  rintro e w' ⟨rfl,rfl⟩
  generalize hW:((((wAs ⟨bj,0,none⟩ g.w).alloc (.cells #[.pointer (some ⟨2,99,none⟩),.pointer (some ⟨g.w.heap.size,0,none⟩),.int .u64 150] 111)).alloc (.cells #[.pointer (some ⟨2,99,none⟩),.pointer (some ⟨g.w.heap.size,0,none⟩),.int .u64 150] 111)).alloc (.cells #[.int .u8 x] 97)) = W
  have hB:Below g.w.heap.size g.w W:=by
   rw [← hW]
   unfold wAs
   exact (((((Below.refl _ _).alloc (Nat.le_refl _) _).alloc (by simp) _).alloc (by simp; omega) _).alloc (by simp; omega) _).alloc (by simp; omega) _
  have hM1:=hM.grow hB
  have hbl:bj < g.w.heap.size:=(Array.getElem?_eq_some_iff.1 hhj).1
  have hh1:W.heap[bj]? = some (.cells #[Vj] Tj frj):=by rw [hB.block bj hbl]; exact hhj
  have hlk:lookup g.objs j = some ⟨own,ver,.cells [c0]⟩:=by rw [hM.same]; exact hj
  have hupd:Upd b0 { g with w:=W } (W.setRow bj #[.int .u8 x]) j ⟨own,ver,.cells [c0]⟩ ⟨own,ver,.cells [.imm (.int .u8 x)]⟩ (.pointer (some ⟨bj,0,none⟩)) true:={
   was:=hlk
   ver:=Nat.le_refl _
   same:=fun _=>qj2.symm
   row:=fun v h=>by cases h
   ptr:=fun _ _=>qj2.symm
   below:=below_setRow _ _ hbj
   size:=by simp
   block:=fun k _ hk=>setRow_other _ _ _ _ (fun he=>hk hexj (by simp only; rw [qj2,he]; rfl))
   mine:=fun _ k hk=>⟨.inr ⟨hexj,by simp only; rw [qj2]; exact hk⟩,by
    simp only [blk,Option.some.injEq] at hk
    subst hk
    rw [size_setRow]; exact Nat.lt_of_lt_of_le hbl hB.size⟩ }
  obtain ⟨hext,hstay⟩:=hupd.ext
  have hwr:wHit x ⟨bj,0,none⟩ g.w = W.setRow bj #[.int .u8 x]:=by
   unfold wHit
   rw [hW,setCell_eq_setRow W bj 0 #[Vj] Tj frj _ hh1]
   rfl
  rw [hwr]
  refine .inl ⟨_,_,_,_,rfl,h,hupd.mem hM1 ?_,rfl,?_,.imm .bool⟩
  ·refine .cells rfl (setRow_heap W bj _ _ Tj frj hh1) (fun q hq=>hfrj q (by simpa using hq)) rfl (fun q v hv=>?_) (fun q hq=>?_) hvj
   ·cases q with
    | zero=>cases hv; exact .imm (.int hin)
    | succ q=>simp at hv
   ·cases q with
    | zero=>rfl
    | succ q=>simp at hq
  ·have s1:Step st g st { g with w:=W }:=.of (ext_grow hB) stays_grow rfl rfl rfl
   exact s1.trans (.of hext hstay rfl rfl rfl)
theorem call16_ok {I:FuncId→Option Func} {E:FuncId→List AV→Option (List Prop×List AV)} {u:Nat} (hE:EOK Tryd.prog E G16) (hI:∀ f fn,I f = some fn→Tryd.prog.funcs[f]? = some fn∧(fn.name == "runtime.NumGoroutine") = false) (n:Nat) :
  CallOK ⟨Tryd.prog,E,call16 I E u n,G16,u⟩:=by
 intro f args st k kp h
 simp only [call16] at h
 cases hf:Nat.beq f 67 with
 | false =>
  rw [hf,cond_false] at h
  exact inl_ok (u:=u) hE hI n f args st k kp h
 | true =>
  rw [hf,cond_true] at h
  obtain rfl:=nbeq hf
  exact ⟨_,Tryd.func67,by kernel_rfl,by kernel_rfl,fun g b0 w0 vals hM hs ha=>sem16 h hM hs ha⟩
end D6
namespace Z19
open Go Go.AE Go.Proofs Go.RowKit D6
variable {b0:Nat} {w0:World} {g:Gh} {st:St}
theorem growP_sem {E:FuncId→List AV→Option (List Prop×List AV)} {call:FuncId→List AV→St→(AV→St→Prop)→(AV→St→Prop)→Prop} {u:Nat} {args:List AV} {k kp:AV→St→Prop} {vals:Array Value}
  (h:growP st k args) (hM:Mem G16 b0 w0 st.objs st.next g) (hs:vals.size = args.length) (ha:∀ (j:Nat) c,args[j]? = some c→ARep g c (vals.getD j undef)) :
  Calls Tryd.prog 71 vals g.w (CallDone ⟨Tryd.prog,E,call,G16,u⟩ b0 w0 st g k kp):=by
 unfold growP at h
 split at h
 case h_2=>exact h.elim
 rename_i n
 obtain ⟨h0,hn,hk⟩:=h
 obtain ⟨X,Y,rfl⟩:∃ X Y,vals = #[X,Y]:=by
  have hs':vals.size = 2:=hs
  match vals,hs' with
  | ⟨[X,Y]⟩,_=>exact ⟨X,Y,rfl⟩
 have rX:ARep g (.full (.bytes [])) X:=ha 0 _ rfl
 have rY:ARep g (.imm (.int .i64 n)) Y:=ha 1 _ rfl
 obtain ⟨rfl,_⟩:=arep_int rY
 cases rX with
 | @full _ ad m hr =>
 have hm:m = 0:=by
  rcases rep_slice hr rfl rfl with ⟨_,h1,_⟩ | ⟨_,_,_,h1,_⟩ <;> cases h1 <;> rfl
 subst hm
 obtain ⟨n,rfl⟩:=Int.eq_ofNat_of_zero_le h0
 by_cases hz:n = 0
 ·subst hz
  refine (grow_none ad g.w).mono ?_
  rintro e w' ⟨rfl,rfl⟩
  have hob:ObRep (g.add g.w st.next ⟨true,0,.row (.bytes [])⟩ (.slice ad 0 0) false) false (.slice ad 0 0) ⟨true,0,.row (.bytes [])⟩:=by
   refine .shared rfl (fun _=>⟨rfl,rfl⟩) rfl ?_
   exact hr.ext (ext_add (hM.fresh st.next (Nat.le_refl _)) (Below.refl _ _) (fun h=>by cases h)).1
  obtain ⟨hM',hx,hst⟩:=hM.add (Below.refl _ _) (fun h=>by cases h) hob
  exact .inl ⟨_,_,_,_,rfl,hk,hM',rfl,.of hx hst rfl rfl rfl,.row (ob:=⟨true,0,.row (.bytes [])⟩) (by rw [lookup_add (hM.fresh st.next (Nat.le_refl _)),if_pos rfl]) rfl (Nat.le_refl _) (fun _=>by simp [Gh.add]) rfl⟩
 ·have hG:=grownCap_ge g.w n 0 5
  have hG63:=grownCap_le_maxLen g.w n 0 5 (by unfold maxLen; omega)
  unfold maxLen at hG63
  refine (grow_some ad n (by omega) (by omega) g.w).mono ?_
  rintro e w' ⟨rfl,rfl⟩
  generalize hc:(#[] ++ Builtin.zeroCells (Value.int .u8 0).cells n ++ Builtin.zeroCells (Value.int .u8 0).cells (grownCap g.w n 0 5 - n)) = c
  have hcs:c.size = grownCap g.w n 0 5:=by
   rw [← hc]
   simp only [Array.size_append,Builtin.zeroCells,Array.size_map,Array.size_range]
   have:(Value.int .u8 0).cells.size = 1:=rfl
   rw [this]
   simp
   omega
  have hB:=below_drew_alloc g.w (.cells c 5)
  have hob:ObRep (g.add (g.w.drew.alloc (.cells c 5)) st.next ⟨true,0,.row (.bytes [])⟩ (.slice (some ⟨g.w.heap.size,0,none⟩) 0 (grownCap g.w n 0 5)) true) true (.slice (some ⟨g.w.heap.size,0,none⟩) 0 (grownCap g.w n 0 5)) ⟨true,0,.row (.bytes [])⟩:=by
   refine .excl (c:=c) (T:=5) rfl (heap_alloc_new g.w.drew _) (fun _ i _ h=>by omega) rfl rfl (Nat.zero_le _) (by omega) (by decide) (by rw [hcs]; show _ = _ * 1; omega) (fun p q x hx=>?_) (fun _ _=>rfl)
   cases q <;> simp [IV.cellAt] at hx
  obtain ⟨hM',hx,hst⟩:=hM.add hB (fun _ b hb=>by
   simp only [blk,Option.some.injEq] at hb
   subst hb
   exact ⟨Nat.le_refl _,by simp⟩) hob
  exact .inl ⟨_,_,_,_,rfl,hk,hM',rfl,.of hx hst rfl rfl rfl,.row (ob:=⟨true,0,.row (.bytes [])⟩) (by rw [lookup_add (hM.fresh st.next (Nat.le_refl _)),if_pos rfl]) rfl (Nat.le_refl _) (fun _=>by simp [Gh.add]) rfl⟩
theorem xGrow_ok {E:FuncId→List AV→Option (List Prop×List AV)} {call:FuncId→List AV→St→(AV→St→Prop)→(AV→St→Prop)→Prop} {u:Nat}:XOK ⟨Tryd.prog,E,call,G16,u⟩ xGrow:=by
 intro f args st k kp h
 simp only [xGrow] at h
 cases hf:Nat.beq f 71 with
 | false=>rw [hf] at h; exact h.elim
 | true =>
  rw [hf,cond_true] at h
  obtain rfl:=nbeq hf
  exact ⟨_,Tryd.func71,by kernel_rfl,by kernel_rfl,fun g b0 w0 vals hM hs ha=>growP_sem h hM hs ha⟩
theorem I2_ok:∀ f fn,I2 f = some fn→Tryd.prog.funcs[f]? = some fn∧(fn.name == "runtime.NumGoroutine") = false:=by
 intro f fn h
 unfold I2 at h
 cases h1:Nat.beq f 62 with
 | true=>rw [h1,cond_true] at h; cases h; obtain rfl:=nbeq h1; exact ⟨Tryd.func62,by kernel_rfl⟩
 | false =>
  rw [h1,cond_false] at h
  cases h2:Nat.beq f 63 with
  | true=>rw [h2,cond_true] at h; cases h; obtain rfl:=nbeq h2; exact ⟨Tryd.func63,by kernel_rfl⟩
  | false=>rw [h2,cond_false] at h; cases h
theorem okU' {E:FuncId→List AV→Option (List Prop×List AV)} (hE:EOK Tryd.prog E G16) (u:Nat):CallOK (inlU E u):=inlX_ok hE (fun _=>xGrow_ok) I2_ok 3
end Z19
set_option maxRecDepth 100000
namespace D6
open Go Go.AE Go.Proofs
attribute [local irreducible] loopK evCode evSpec loopB norm
theorem f31_in (b:List UInt8) (off:Int) (n:Int) (K:List AV→Prop):evSpec C0 Tryd.f81 [.imm (.bytes b),i64 off,i64 n] K = (brn (decide (off < 0) || decide (off > (b.length:Int)) || decide (IntKind.wrap .i64 ((b.length:Int) - off) < n)) (K [.imm (.int IntKind.u64 (0:Int)),.imm (.bool false)]) (LoopI C0 (bodyOf Tryd.f81) (0:Nat) (St.mk (lapp [.imm (.bytes b),.imm (.int .i64 off),.imm (.int .i64 n),.dead,.dead,.dead,.imm (.int IntKind.u64 (0:Int)),.imm (.bool false),.imm (.int IntKind.u64 (0:Int)),.dead,.imm (.int .i64 off),.imm (.bool (decide (off < 0))),.imm (.bool (decide (off < 0))),.opt [((12:Nat),false)] (.imm (.int .i64 off)),.opt [((12:Nat),false)] (.imm (.bytes b)),.opt [((12:Nat),false)] (.imm (.int .i64 (b.length:Int))),.opt [((12:Nat),false)] (.imm (.bool (decide (off > (b.length:Int))))),.imm (.bool (decide (off < 0) || decide (off > (b.length:Int)))),.imm (.bool (decide (off < 0) || decide (off > (b.length:Int)))),.opt [((18:Nat),false)] (.imm (.bytes b)),.opt [((18:Nat),false)] (.imm (.int .i64 (b.length:Int))),.opt [((18:Nat),false)] (.imm (.int .i64 off)),.opt [((18:Nat),false)] (.imm
 (.int .i64 (IntKind.wrap .i64 ((b.length:Int) - off)))),.opt [((18:Nat),false)] (.imm (.int .i64 n)),.opt [((18:Nat),false)] (.imm (.bool (decide (IntKind.wrap .i64 ((b.length:Int) - off) < n)))),.imm (.bool (decide (off < 0) || decide (off > (b.length:Int)) || decide (IntKind.wrap .i64 ((b.length:Int) - off) < n))),.imm (.int .i64 n),.imm (.int .i64 0)] (dN 14)) [] (0:Nat) []) (finK C0 Tryd.f81 K))):=by kernel_rfl
theorem f29_in (b:List UInt8) (off:Int) (n:Int) (K:List AV→Prop):evSpec C0 Tryd.f82 [.imm (.bytes b),i64 off,i64 n] K = (brn (decide (off < 0) || decide (off > IntKind.wrap .i64 ((b.length:Int) - n))) (K [.imm (.int IntKind.u64 (0:Int)),.imm (.bool false)]) (LoopI C0 (bodyOf Tryd.f82) (0:Nat) (St.mk (lapp [.imm (.bytes b),.imm (.int .i64 off),.imm (.int .i64 n),.dead,.dead,.dead,.imm (.int IntKind.u64 (0:Int)),.imm (.bool false),.imm (.int IntKind.u64 (0:Int)),.imm (.int .i64 0),.imm (.int .i64 off),.imm (.bool (decide (off < 0))),.imm (.bool (decide (off < 0))),.opt [((12:Nat),false)] (.imm (.int .i64 off)),.opt [((12:Nat),false)] (.imm (.bytes b)),.opt [((12:Nat),false)] (.imm (.int .i64 (b.length:Int))),.opt [((12:Nat),false)] (.imm (.int .i64 n)),.opt [((12:Nat),false)] (.imm (.int .i64 (IntKind.wrap .i64 ((b.length:Int) - n)))),.opt [((12:Nat),false)] (.imm (.bool (decide (off > IntKind.wrap .i64 ((b.length:Int) - n))))),.imm (.bool (decide (off < 0) || decide (off > IntKind.wrap .i64 ((b.length:Int) - n))))] (dN 16)) [] (0:Nat) []) (finK C0 Tryd.f82 K))):=by kernel_rfl
theorem f30_in (n:Int) (K:List AV→Prop):evSpec C0 Tryd.f70 [i64 n] K = (LoopI C0 (bodyOf Tryd.f70) (0:Nat) (St.mk (lapp [.imm (.int .i64 n),.dead,.imm (.int IntKind.u64 (0:Int)),.imm (.int IntKind.u64 (128:Int)),.imm (.int .i64 1)] (dN 8)) [] (0:Nat) []) (finK C0 Tryd.f70 K)):=by kernel_rfl
theorem f11_in (a:List UInt8) (b:List UInt8) (K:List AV→Prop):evSpec C0 Tryd.f20 [.imm (.bytes a),.imm (.bytes b)] K = (brn ((a.length:Int) != (b.length:Int)) (K [.imm (.bool false)]) (LoopI C0 (bodyOf Tryd.f20) (0:Nat) (St.mk (lapp [.imm (.bytes a),.imm (.bytes b),.dead,.dead,.imm (.bool false),.imm (.int .i64 0),.imm (.bytes a),.imm (.int .i64 (a.length:Int)),.imm (.bytes b),.imm (.int .i64 (b.length:Int)),.imm (.bool ((a.length:Int) != (b.length:Int)))] (dN 15)) [] (0:Nat) []) (finK C0 Tryd.f20 K))):=by kernel_rfl
theorem f23_in (b:List UInt8) (off:Int) (n:Int) (K:List AV→Prop):evSpec C1 Tryd.f68 [.imm (.bytes b),i64 off,i64 n] K = ((b.length:Int)≤big∧(0:Int)≤off∧off≤big∧(0:Int)≤n∧n≤8∧(0:Int)≤IntKind.wrap IntKind.u64 (IntKind.wrap .i64 ((64:Int) - IntKind.wrap .i64 ((8:Int) * n)))∧(0:Int)≤IntKind.wrap IntKind.u64 (IntKind.wrap .i64 ((64:Int) - IntKind.wrap .i64 ((8:Int) * n)))∧K [.imm (.int .i64 (shrV IntKind.i64 (IntKind.wrap .i64 (shlV IntKind.u64 (↑(uintP b (Int.toNat off) n.toNat):Int) (IntKind.wrap IntKind.u64 (IntKind.wrap .i64 ((64:Int) - IntKind.wrap .i64 ((8:Int) * n)))))) (IntKind.wrap IntKind.u64 (IntKind.wrap .i64 ((64:Int) - IntKind.wrap .i64 ((8:Int) * n)))))),.imm (.bool (okR b (Int.toNat off) n.toNat))]):=by kernel_rfl
theorem f20_in (b:List UInt8) (off:Int) (n:Int) (K:List AV→Prop):evSpec C1 Tryd.f69 [.imm (.bytes b),i64 off,i64 n] K = ((b.length:Int)≤big∧(0:Int)≤off∧off≤big∧(0:Int)≤n∧n≤8∧(1:Int)≤n∧n≤8∧brn (decide ((↑(uintP b (Int.toNat off) n.toNat):Int)≥2 ^ ((8:Nat) * n.toNat - 1))) ((1:Int)≤n∧n≤8∧(1:Int)≤n∧n≤8∧K [.imm (.int .i64 (IntKind.wrap .i64 (IntKind.wrap .i64 (IntKind.wrap .i64 (IntKind.wrap IntKind.u64 ((↑(uintP b (Int.toNat off) n.toNat):Int) - 2 ^ ((8:Nat) * n.toNat - 1))) - IntKind.wrap .i64 (IntKind.wrap IntKind.u64 ((2:Int) ^ ((8:Nat) * n.toNat - 1) - 1))) - 1))),.imm (.bool (okR b (Int.toNat off) n.toNat))]) (K [.imm (.int .i64 (IntKind.wrap .i64 (↑(uintP b (Int.toNat off) n.toNat):Int))),.imm (.bool (okR b (Int.toNat off) n.toNat))])):=by kernel_rfl
theorem f21_in (b:List UInt8) (n:Int) (v:Int) (K:List AV→Prop):evSpec C0 Tryd.f72 [.imm (.bytes b),i64 n,.imm (.int IntKind.u64 v)] K = ((0:Int)≤0∧(0:Int)≤IntKind.wrap .i64 ((b.length:Int) + n)∧(↑(1:Nat):Int) * IntKind.wrap .i64 ((b.length:Int) + n)≤140737488355328∧IntKind.wrap .i64 ((b.length:Int) + n)≤140737488355328∧((List.replicate (0:Int).toNat (0:UInt8)).length + b.length) * 1≤140737488355328∧(List.replicate (0:Int).toNat (0:UInt8)).length + b.length≤140737488355328∧LoopI C0 (bodyOf Tryd.f72) (0:Nat) (St.mk (lapp [.imm (.bytes b),.imm (.int .i64 n),.imm (.int IntKind.u64 v),.dead,.dead,.dead,.full (IV.bytes []),AV.row (0:Nat) (1:Nat),.dead,.imm (.bytes b),.imm (.int .i64 (b.length:Int)),.imm (.int .i64 n),.imm (.int .i64 (IntKind.wrap .i64 ((b.length:Int) + n))),AV.row (0:Nat) (0:Nat),.imm (.bytes b),AV.row (0:Nat) (1:Nat),.imm (.int .i64 n),.imm (.int .i64 0)] (dN 16)) [(0,Ob.mk true 1 (AObj.row (IV.bytes (List.replicate (0:Int).toNat (0:UInt8) ++ b))))] (1:Nat) []) (finK C0 Tryd.f72 K)):=by kernel_rfl
theorem f22_in (b:List UInt8) (n:Int) (v:Int) (K:List AV→Prop):evSpec C0 Tryd.f73 [.imm (.bytes b),i64 n,.imm (.int IntKind.u64 v)] K = (LoopI C0 (bodyOf Tryd.f73) (0:Nat) (St.mk (lapp [.imm (.bytes b),.imm (.int .i64 n),.imm (.int IntKind.u64 v),.dead,.dead,.dead,.full (IV.bytes []),.full (IV.bytes (List.map u8 [])),.imm (.int .i64 0),.full (IV.bytes (List.map u8 []))] (dN 18)) [] (0:Nat) []) (finK C0 Tryd.f73 K)):=by kernel_rfl
theorem f10_in (xs:List (List IV)) (ys:List (List IV)) (K:List AV→Prop):evSpec C0 Tryd.f43 [.imm (.sl (3:Nat) xs),.imm (.sl (3:Nat) ys)] K = (brn ((xs.length:Int) != (ys.length:Int)) (K [.imm (.bool false)]) (LoopI C0 (bodyOf Tryd.f43) (0:Nat) (St.mk (lapp [.imm (.sl (3:Nat) xs),.imm (.sl (3:Nat) ys),.dead,.dead,.imm (.bool false),.imm (.int .i64 0),.imm (.sl (3:Nat) xs),.imm (.int .i64 (xs.length:Int)),.imm (.sl (3:Nat) ys),.imm (.int .i64 (ys.length:Int)),.imm (.bool ((xs.length:Int) != (ys.length:Int)))] (dN 15)) [] (0:Nat) []) (finK C0 Tryd.f43 K))):=by kernel_rfl
theorem f12_in (xs:List (List IV)) (K:List AV→Prop):evSpec C3 Tryd.f55 [.imm (.sl (3:Nat) xs)] K = ((0:Int)≤0∧(0:Int)≤IntKind.wrap .i64 ((6:Int) * (xs.length:Int))∧(↑(1:Nat):Int) * IntKind.wrap .i64 ((6:Int) * (xs.length:Int))≤140737488355328∧IntKind.wrap .i64 ((6:Int) * (xs.length:Int))≤140737488355328∧LoopI C3 (bodyOf Tryd.f55) (0:Nat) (St.mk (lapp [.imm (.sl (3:Nat) xs),.dead,.full (IV.bytes []),AV.row (0:Nat) (0:Nat),.dead,.dead,.dead,.imm (.sl (3:Nat) xs),.imm (.int .i64 (xs.length:Int)),.imm (.int .i64 (IntKind.wrap .i64 ((6:Int) * (xs.length:Int)))),AV.row (0:Nat) (0:Nat),.imm (.sl (3:Nat) xs),.imm (.int .i64 (xs.length:Int)),.imm (.int .i64 0)] (dN 19)) [(0,Ob.mk true 0 (AObj.row (IV.bytes (List.replicate (0:Int).toNat (0:UInt8)))))] (1:Nat) []) (finK C3 Tryd.f55 K)):=by kernel_rfl
theorem f13_in (xs:List (List IV)) (K:List AV→Prop):evSpec C3 Tryd.f59 [.imm (.sl (3:Nat) xs)] K = (LoopI C3 (bodyOf Tryd.f59) (0:Nat) (St.mk (lapp [.imm (.sl (3:Nat) xs),.dead,.full (IV.bytes []),.full (IV.bytes []),.imm (.int .i64 0)] (dN 31)) [] (0:Nat) []) (finK C3 Tryd.f59 K)):=by kernel_rfl
theorem f9_in (b:List UInt8) (K:List AV→Prop):evSpec C2 Tryd.f39 [.imm (.bytes b)] K = (LoopI C2 (bodyOf Tryd.f39) (0:Nat) (St.mk (lapp [.imm (.bytes b),.dead,.full (IV.sl (3:Nat) []),.imm (.bool false),.imm (.int .i64 0)] (dN 52)) [] (0:Nat) []) (finK C2 Tryd.f39 K)):=by kernel_rfl
end D6
set_option maxRecDepth 100000
namespace D6
open Go Go.AE Go.Proofs
attribute [local irreducible] loopK evCode evSpec loopB norm
theorem f31_lp (b:List UInt8) (off:Int) (n:Int) (v:Int) (i:Nat) (k:AX→St→Prop):evCode C0 (loopB (bodyOf Tryd.f81) (0:Nat)) (h31 b off n v i) k = (brn (decide ((↑i:Int) < n)) ((0:Int)≤8∧(0:Int)≤IntKind.wrap .i64 (off + (↑i:Int))∧IntKind.wrap .i64 (off + (↑i:Int)) < (b.length:Int)∧k AX.normal (St.mk [.imm (.bytes b),.imm (.int .i64 off),.imm (.int .i64 n),.dead,.dead,.dead,.dead,.dead,.imm (.int IntKind.u64 (bitsV BinOp.or IntKind.u64 (shlV IntKind.u64 v (8:Int)) (IntKind.wrap IntKind.u64 (↑(UInt8.toNat (List.getD b (IntKind.wrap .i64 (off + (↑i:Int))).toNat (0:UInt8))):Int)))),.imm (.int .i64 (↑i:Int)),.dead,.dead,.dead,.dead,.dead,.dead,.dead,.dead,.dead,.dead,.dead,.dead,.dead,.dead,.dead,.dead,.imm (.int .i64 n),.imm (.int .i64 (IntKind.wrap .i64 ((↑i:Int) + 1))),.imm (.bool (decide ((↑i:Int) < n))),.imm (.int .i64 (↑i:Int)),.imm (.int IntKind.u64 v),.imm (.int IntKind.u64 (shlV IntKind.u64 v (8:Int))),.imm (.bytes b),.imm (.int .i64 off),.imm (.int .i64 (↑i:Int)),.imm (.int .i64 (IntKind.wrap .i64 (off + (↑i:Int)))),AV.elv [IV.int .u8 (↑(UInt8.toNat (List.getD b (IntKind.wrap .i64
 (off + (↑i:Int))).toNat (0:UInt8))):Int)],.imm (.int .u8 (↑(UInt8.toNat (List.getD b (IntKind.wrap .i64 (off + (↑i:Int))).toNat (0:UInt8))):Int)),.imm (.int IntKind.u64 (IntKind.wrap IntKind.u64 (↑(UInt8.toNat (List.getD b (IntKind.wrap .i64 (off + (↑i:Int))).toNat (0:UInt8))):Int))),.imm (.int IntKind.u64 (bitsV BinOp.or IntKind.u64 (shlV IntKind.u64 v (8:Int)) (IntKind.wrap IntKind.u64 (↑(UInt8.toNat (List.getD b (IntKind.wrap .i64 (off + (↑i:Int))).toNat (0:UInt8))):Int)))),.imm (.int .i64 (IntKind.wrap .i64 ((↑i:Int) + 1))),.dead] [] (0:Nat) [])) (k (AX.exit (0:Nat)) (St.mk [.imm (.bytes b),.imm (.int .i64 off),.imm (.int .i64 n),.dead,.dead,.dead,.dead,.dead,.imm (.int IntKind.u64 v),.dead,.dead,.dead,.dead,.dead,.dead,.dead,.dead,.dead,.dead,.dead,.dead,.dead,.dead,.dead,.dead,.dead,.imm (.int .i64 n),.imm (.int .i64 (↑i:Int)),.imm (.bool (decide ((↑i:Int) < n))),.dead,.dead,.dead,.dead,.dead,.dead,.dead,.dead,.dead,.dead,.dead,.dead,.dead] [] (0:Nat) []))):=by kernel_rfl
theorem f29_lp (b:List UInt8) (off:Int) (n:Int) (v:Int) (i:Nat) (k:AX→St→Prop):evCode C0 (loopB (bodyOf Tryd.f82) (0:Nat)) (h29 b off n v i) k = (brn (decide ((↑i:Int) < n)) ((0:Int)≤IntKind.wrap .i64 (off + (↑i:Int))∧IntKind.wrap .i64 (off + (↑i:Int)) < (b.length:Int)∧k AX.normal (St.mk [.imm (.bytes b),.imm (.int .i64 off),.imm (.int .i64 n),.dead,.dead,.dead,.dead,.dead,.imm (.int IntKind.u64 (IntKind.wrap IntKind.u64 (IntKind.wrap IntKind.u64 (v * 256) + IntKind.wrap IntKind.u64 (↑(UInt8.toNat (List.getD b (IntKind.wrap .i64 (off + (↑i:Int))).toNat (0:UInt8))):Int)))),.imm (.int .i64 (IntKind.wrap .i64 ((↑i:Int) + 1))),.dead,.dead,.dead,.dead,.dead,.dead,.dead,.dead,.dead,.dead,.imm (.int .i64 (↑i:Int)),.imm (.int .i64 n),.imm (.bool (decide ((↑i:Int) < n))),.imm (.int .i64 (↑i:Int)),.imm (.int .i64 (IntKind.wrap .i64 ((↑i:Int) + 1))),.imm (.int IntKind.u64 v),.imm (.int IntKind.u64 (IntKind.wrap IntKind.u64 (v * 256))),.imm (.bytes b),.imm (.int .i64 off),.imm (.int .i64 (↑i:Int)),.imm (.int .i64 (IntKind.wrap .i64 (off + (↑i:Int)))),AV.elv [IV.int .u8 (↑(UInt8.toNat (List.getD b
 (IntKind.wrap .i64 (off + (↑i:Int))).toNat (0:UInt8))):Int)],.imm (.int .u8 (↑(UInt8.toNat (List.getD b (IntKind.wrap .i64 (off + (↑i:Int))).toNat (0:UInt8))):Int)),.imm (.int IntKind.u64 (IntKind.wrap IntKind.u64 (↑(UInt8.toNat (List.getD b (IntKind.wrap .i64 (off + (↑i:Int))).toNat (0:UInt8))):Int))),.imm (.int IntKind.u64 (IntKind.wrap IntKind.u64 (IntKind.wrap IntKind.u64 (v * 256) + IntKind.wrap IntKind.u64 (↑(UInt8.toNat (List.getD b (IntKind.wrap .i64 (off + (↑i:Int))).toNat (0:UInt8))):Int)))),.dead] [] (0:Nat) [])) (k (AX.exit (0:Nat)) (St.mk [.imm (.bytes b),.imm (.int .i64 off),.imm (.int .i64 n),.dead,.dead,.dead,.dead,.dead,.imm (.int IntKind.u64 v),.imm (.int .i64 (↑i:Int)),.dead,.dead,.dead,.dead,.dead,.dead,.dead,.dead,.dead,.dead,.imm (.int .i64 (↑i:Int)),.imm (.int .i64 n),.imm (.bool (decide ((↑i:Int) < n))),.dead,.dead,.dead,.dead,.dead,.dead,.dead,.dead,.dead,.dead,.dead,.dead,.dead] [] (0:Nat) []))):=by kernel_rfl
theorem f30_lp (n:Int) (p:Int) (i:Nat) (k:AX→St→Prop):evCode C0 (loopB (bodyOf Tryd.f70) (0:Nat)) (h30 n p i) k = (brn (decide ((↑i:Int) < n)) (k AX.normal (St.mk [.imm (.int .i64 n),.dead,.dead,.imm (.int IntKind.u64 (IntKind.wrap IntKind.u64 (p * 256))),.imm (.int .i64 (IntKind.wrap .i64 ((↑i:Int) + 1))),.imm (.int .i64 (↑i:Int)),.imm (.int .i64 n),.imm (.bool (decide ((↑i:Int) < n))),.imm (.int .i64 (↑i:Int)),.imm (.int .i64 (IntKind.wrap .i64 ((↑i:Int) + 1))),.imm (.int IntKind.u64 p),.imm (.int IntKind.u64 (IntKind.wrap IntKind.u64 (p * 256))),.dead] [] (0:Nat) [])) (k (AX.exit (0:Nat)) (St.mk [.imm (.int .i64 n),.dead,.dead,.imm (.int IntKind.u64 p),.imm (.int .i64 (↑i:Int)),.imm (.int .i64 (↑i:Int)),.imm (.int .i64 n),.imm (.bool (decide ((↑i:Int) < n))),.dead,.dead,.dead,.dead,.dead] [] (0:Nat) []))):=by kernel_rfl
theorem f11_lp (a:List UInt8) (b:List UInt8) (i:Nat) (k:AX→St→Prop):evCode C0 (loopB (bodyOf Tryd.f20) (0:Nat)) (h11 a b i) k = (brn (decide ((↑i:Int) < (a.length:Int))) ((0:Int)≤(↑i:Int)∧(↑i:Int) < (a.length:Int)∧(0:Int)≤(↑i:Int)∧(↑i:Int) < (b.length:Int)∧brn ((↑(UInt8.toNat (List.getD a (↑i:Int).toNat (0:UInt8))):Int) != (↑(UInt8.toNat (List.getD b (↑i:Int).toNat (0:UInt8))):Int)) (k AX.ret (St.mk [.imm (.bytes a),.imm (.bytes b),.dead,.dead,.imm (.bool false),.imm (.int .i64 (↑i:Int)),.dead,.dead,.dead,.dead,.dead,.imm (.int .i64 (↑i:Int)),.imm (.bytes a),.imm (.int .i64 (a.length:Int)),.imm (.bool (decide ((↑i:Int) < (a.length:Int)))),.dead,.dead,.imm (.bytes a),.imm (.int .i64 (↑i:Int)),AV.elv [IV.int .u8 (↑(UInt8.toNat (List.getD a (↑i:Int).toNat (0:UInt8))):Int)],.imm (.int .u8 (↑(UInt8.toNat (List.getD a (↑i:Int).toNat (0:UInt8))):Int)),.imm (.bytes b),.imm (.int .i64 (↑i:Int)),AV.elv [IV.int .u8 (↑(UInt8.toNat (List.getD b (↑i:Int).toNat (0:UInt8))):Int)],.imm (.int .u8 (↑(UInt8.toNat (List.getD b (↑i:Int).toNat (0:UInt8))):Int)),.imm (.bool
 ((↑(UInt8.toNat (List.getD a (↑i:Int).toNat (0:UInt8))):Int) != (↑(UInt8.toNat (List.getD b (↑i:Int).toNat (0:UInt8))):Int)))] [] (0:Nat) [])) (k AX.normal (St.mk [.imm (.bytes a),.imm (.bytes b),.dead,.dead,.dead,.imm (.int .i64 (IntKind.wrap .i64 ((↑i:Int) + 1))),.dead,.dead,.dead,.dead,.dead,.imm (.int .i64 (↑i:Int)),.imm (.bytes a),.imm (.int .i64 (a.length:Int)),.imm (.bool (decide ((↑i:Int) < (a.length:Int)))),.imm (.int .i64 (↑i:Int)),.imm (.int .i64 (IntKind.wrap .i64 ((↑i:Int) + 1))),.imm (.bytes a),.imm (.int .i64 (↑i:Int)),AV.elv [IV.int .u8 (↑(UInt8.toNat (List.getD a (↑i:Int).toNat (0:UInt8))):Int)],.imm (.int .u8 (↑(UInt8.toNat (List.getD a (↑i:Int).toNat (0:UInt8))):Int)),.imm (.bytes b),.imm (.int .i64 (↑i:Int)),AV.elv [IV.int .u8 (↑(UInt8.toNat (List.getD b (↑i:Int).toNat (0:UInt8))):Int)],.imm (.int .u8 (↑(UInt8.toNat (List.getD b (↑i:Int).toNat (0:UInt8))):Int)),.imm (.bool ((↑(UInt8.toNat (List.getD a (↑i:Int).toNat (0:UInt8))):Int) != (↑(UInt8.toNat (List.getD b (↑i:Int).toNat (0:UInt8))):Int)))] [] (0:Nat) []))) (k (AX.exit (0:Nat)) (St.mk [.imm (.bytes a),.imm
 (.bytes b),.dead,.dead,.dead,.imm (.int .i64 (↑i:Int)),.dead,.dead,.dead,.dead,.dead,.imm (.int .i64 (↑i:Int)),.imm (.bytes a),.imm (.int .i64 (a.length:Int)),.imm (.bool (decide ((↑i:Int) < (a.length:Int)))),.dead,.dead,.dead,.dead,.dead,.dead,.dead,.dead,.dead,.dead,.dead] [] (0:Nat) []))):=by kernel_rfl
theorem f10_lp (a:List (List IV)) (b:List (List IV)) (i:Nat) (k:AX→St→Prop):evCode C0 (loopB (bodyOf Tryd.f43) (0:Nat)) (h10 a b i) k = (brn (decide ((↑i:Int) < (a.length:Int))) ((0:Int)≤(↑i:Int)∧(↑i:Int) < (a.length:Int)∧kcells (List.getD a (↑i:Int).toNat []) (0:Nat) (lapp [CK.int IntKind.i32] (lapp [CK.bool] (lapp [CK.int IntKind.u8] []))) = List.getD a (↑i:Int).toNat []∧(0:Int)≤(↑i:Int)∧(↑i:Int) < (b.length:Int)∧kcells (List.getD b (↑i:Int).toNat []) (0:Nat) (lapp [CK.int IntKind.i32] (lapp [CK.bool] (lapp [CK.int IntKind.u8] []))) = List.getD b (↑i:Int).toNat []∧brn (!(ivInt (ivNth (List.getD a (↑i:Int).toNat []) (0:Nat)) == ivInt (ivNth (List.getD b (↑i:Int).toNat []) (0:Nat)) && (ivBool (ivNth (List.getD a (↑i:Int).toNat []) ((0:Nat) + 1)) == ivBool (ivNth (List.getD b (↑i:Int).toNat []) ((0:Nat) + 1)) && (ivInt (ivNth (List.getD a (↑i:Int).toNat []) ((0:Nat) + 1 + 1)) == ivInt (ivNth (List.getD b (↑i:Int).toNat []) ((0:Nat) + 1 + 1)) && true)))) (k AX.ret (St.mk [.imm (.sl (3:Nat) a),.imm (.sl (3:Nat) b),.dead,.dead,.imm (.bool false),.imm (.int .i64 (↑i:Int)),.dead,.dead,
 .dead,.dead,.dead,.imm (.int .i64 (↑i:Int)),.imm (.sl (3:Nat) a),.imm (.int .i64 (a.length:Int)),.imm (.bool (decide ((↑i:Int) < (a.length:Int)))),.dead,.dead,.imm (.sl (3:Nat) a),.imm (.int .i64 (↑i:Int)),AV.elv [IV.int IntKind.i32 (ivInt (ivNth (List.getD a (↑i:Int).toNat []) (0:Nat))),IV.bool (ivBool (ivNth (List.getD a (↑i:Int).toNat []) ((0:Nat) + 1))),IV.int .u8 (ivInt (ivNth (List.getD a (↑i:Int).toNat []) ((0:Nat) + 1 + 1)))],.agg [.imm (.int IntKind.i32 (ivInt (ivNth (List.getD a (↑i:Int).toNat []) (0:Nat)))),.imm (.bool (ivBool (ivNth (List.getD a (↑i:Int).toNat []) ((0:Nat) + 1)))),.imm (.int .u8 (ivInt (ivNth (List.getD a (↑i:Int).toNat []) ((0:Nat) + 1 + 1))))],.imm (.sl (3:Nat) b),.imm (.int .i64 (↑i:Int)),AV.elv [IV.int IntKind.i32 (ivInt (ivNth (List.getD b (↑i:Int).toNat []) (0:Nat))),IV.bool (ivBool (ivNth (List.getD b (↑i:Int).toNat []) ((0:Nat) + 1))),IV.int .u8 (ivInt (ivNth (List.getD b (↑i:Int).toNat []) ((0:Nat) + 1 + 1)))],.agg [.imm (.int IntKind.i32 (ivInt (ivNth (List.getD b (↑i:Int).toNat []) (0:Nat)))),.imm (.bool (ivBool (ivNth (List.getD b (↑i:Int).toNat []) ((0:Nat)
 + 1)))),.imm (.int .u8 (ivInt (ivNth (List.getD b (↑i:Int).toNat []) ((0:Nat) + 1 + 1))))],.imm (.bool !(ivInt (ivNth (List.getD a (↑i:Int).toNat []) (0:Nat)) == ivInt (ivNth (List.getD b (↑i:Int).toNat []) (0:Nat)) && (ivBool (ivNth (List.getD a (↑i:Int).toNat []) ((0:Nat) + 1)) == ivBool (ivNth (List.getD b (↑i:Int).toNat []) ((0:Nat) + 1)) && (ivInt (ivNth (List.getD a (↑i:Int).toNat []) ((0:Nat) + 1 + 1)) == ivInt (ivNth (List.getD b (↑i:Int).toNat []) ((0:Nat) + 1 + 1)) && true))))] [] (0:Nat) [])) (k AX.normal (St.mk [.imm (.sl (3:Nat) a),.imm (.sl (3:Nat) b),.dead,.dead,.dead,.imm (.int .i64 (IntKind.wrap .i64 ((↑i:Int) + 1))),.dead,.dead,.dead,.dead,.dead,.imm (.int .i64 (↑i:Int)),.imm (.sl (3:Nat) a),.imm (.int .i64 (a.length:Int)),.imm (.bool (decide ((↑i:Int) < (a.length:Int)))),.imm (.int .i64 (↑i:Int)),.imm (.int .i64 (IntKind.wrap .i64 ((↑i:Int) + 1))),.imm (.sl (3:Nat) a),.imm (.int .i64 (↑i:Int)),AV.elv [IV.int IntKind.i32 (ivInt (ivNth (List.getD a (↑i:Int).toNat []) (0:Nat))),IV.bool (ivBool (ivNth (List.getD a (↑i:Int).toNat []) ((0:Nat) + 1))),IV.int .u8 (ivInt (ivNth (List.getD
 a (↑i:Int).toNat []) ((0:Nat) + 1 + 1)))],.agg [.imm (.int IntKind.i32 (ivInt (ivNth (List.getD a (↑i:Int).toNat []) (0:Nat)))),.imm (.bool (ivBool (ivNth (List.getD a (↑i:Int).toNat []) ((0:Nat) + 1)))),.imm (.int .u8 (ivInt (ivNth (List.getD a (↑i:Int).toNat []) ((0:Nat) + 1 + 1))))],.imm (.sl (3:Nat) b),.imm (.int .i64 (↑i:Int)),AV.elv [IV.int IntKind.i32 (ivInt (ivNth (List.getD b (↑i:Int).toNat []) (0:Nat))),IV.bool (ivBool (ivNth (List.getD b (↑i:Int).toNat []) ((0:Nat) + 1))),IV.int .u8 (ivInt (ivNth (List.getD b (↑i:Int).toNat []) ((0:Nat) + 1 + 1)))],.agg [.imm (.int IntKind.i32 (ivInt (ivNth (List.getD b (↑i:Int).toNat []) (0:Nat)))),.imm (.bool (ivBool (ivNth (List.getD b (↑i:Int).toNat []) ((0:Nat) + 1)))),.imm (.int .u8 (ivInt (ivNth (List.getD b (↑i:Int).toNat []) ((0:Nat) + 1 + 1))))],.imm (.bool !(ivInt (ivNth (List.getD a (↑i:Int).toNat []) (0:Nat)) == ivInt (ivNth (List.getD b (↑i:Int).toNat []) (0:Nat)) && (ivBool (ivNth (List.getD a (↑i:Int).toNat []) ((0:Nat) + 1)) == ivBool (ivNth (List.getD b (↑i:Int).toNat []) ((0:Nat) + 1)) && (ivInt (ivNth (List.getD a (↑i:Int).toNat []) ((0:Nat) +
 1 + 1)) == ivInt (ivNth (List.getD b (↑i:Int).toNat []) ((0:Nat) + 1 + 1)) && true))))] [] (0:Nat) []))) (k (AX.exit (0:Nat)) (St.mk [.imm (.sl (3:Nat) a),.imm (.sl (3:Nat) b),.dead,.dead,.dead,.imm (.int .i64 (↑i:Int)),.dead,.dead,.dead,.dead,.dead,.imm (.int .i64 (↑i:Int)),.imm (.sl (3:Nat) a),.imm (.int .i64 (a.length:Int)),.imm (.bool (decide ((↑i:Int) < (a.length:Int)))),.dead,.dead,.dead,.dead,.dead,.dead,.dead,.dead,.dead,.dead,.dead] [] (0:Nat) []))):=by kernel_rfl
theorem f21_lp (n:Int) (v:Int) (l:List UInt8) (i:Nat) (k:AX→St→Prop):evCode C0 (loopB (bodyOf Tryd.f72) (0:Nat)) (h21 n v l i) k = (brn (decide ((↑i:Int) < n)) ((0:Int)≤IntKind.wrap IntKind.u64 (IntKind.wrap .i64 ((8:Int) * IntKind.wrap .i64 (IntKind.wrap .i64 (n - 1) - (↑i:Int))))∧(l.length + (List.map u8 [IntKind.wrap IntKind.u8 (shrV IntKind.u64 v (IntKind.wrap IntKind.u64 (IntKind.wrap .i64 ((8:Int) * IntKind.wrap .i64 (IntKind.wrap .i64 (n - 1) - (↑i:Int))))))]).length) * 1≤140737488355328∧l.length + (List.map u8 [IntKind.wrap IntKind.u8 (shrV IntKind.u64 v (IntKind.wrap IntKind.u64 (IntKind.wrap .i64 ((8:Int) * IntKind.wrap .i64 (IntKind.wrap .i64 (n - 1) - (↑i:Int))))))]).length≤140737488355328∧k AX.normal (St.mk [.dead,.imm (.int .i64 n),.imm (.int IntKind.u64 v),.dead,.dead,.dead,.dead,AV.row (0:Nat) (1:Nat),.imm (.int .i64 (↑i:Int)),.dead,.dead,.dead,.dead,.dead,.dead,.dead,.imm (.int .i64 n),.imm (.int .i64 (IntKind.wrap .i64 ((↑i:Int) + 1))),.imm (.bool (decide ((↑i:Int) < n))),.imm (.int .i64 (↑i:Int)),AV.row (0:Nat) (0:Nat),.imm (.int IntKind.u64 v),.imm (.int .i64 n),.imm (.int .i64
 (IntKind.wrap .i64 (n - 1))),.imm (.int .i64 (↑i:Int)),.imm (.int .i64 (IntKind.wrap .i64 (IntKind.wrap .i64 (n - 1) - (↑i:Int)))),.imm (.int .i64 (IntKind.wrap .i64 ((8:Int) * IntKind.wrap .i64 (IntKind.wrap .i64 (n - 1) - (↑i:Int))))),.imm (.int IntKind.u64 (IntKind.wrap IntKind.u64 (IntKind.wrap .i64 ((8:Int) * IntKind.wrap .i64 (IntKind.wrap .i64 (n - 1) - (↑i:Int)))))),.imm (.int IntKind.u64 (shrV IntKind.u64 v (IntKind.wrap IntKind.u64 (IntKind.wrap .i64 ((8:Int) * IntKind.wrap .i64 (IntKind.wrap .i64 (n - 1) - (↑i:Int))))))),.imm (.int .u8 (IntKind.wrap IntKind.u8 (shrV IntKind.u64 v (IntKind.wrap IntKind.u64 (IntKind.wrap .i64 ((8:Int) * IntKind.wrap .i64 (IntKind.wrap .i64 (n - 1) - (↑i:Int)))))))),.full (IV.bytes (List.map u8 [IntKind.wrap IntKind.u8 (shrV IntKind.u64 v (IntKind.wrap IntKind.u64 (IntKind.wrap .i64 ((8:Int) * IntKind.wrap .i64 (IntKind.wrap .i64 (n - 1) - (↑i:Int))))))])),AV.row (0:Nat) (1:Nat),.imm (.int .i64 (IntKind.wrap .i64 ((↑i:Int) + 1))),.dead] [(0,Ob.mk true 1 (AObj.row (IV.bytes (l ++ List.map u8 [IntKind.wrap IntKind.u8 (shrV IntKind.u64 v (IntKind.wrap IntKind.u64 (IntKind.wrap .i64 ((8:Int) *
 IntKind.wrap .i64 (IntKind.wrap .i64 (n - 1) - (↑i:Int))))))]))))] (1:Nat) [])) (k (AX.exit (0:Nat)) (St.mk [.dead,.imm (.int .i64 n),.imm (.int IntKind.u64 v),.dead,.dead,.dead,.dead,AV.row (0:Nat) (0:Nat),.dead,.dead,.dead,.dead,.dead,.dead,.dead,.dead,.imm (.int .i64 n),.imm (.int .i64 (↑i:Int)),.imm (.bool (decide ((↑i:Int) < n))),.dead,.dead,.dead,.dead,.dead,.dead,.dead,.dead,.dead,.dead,.dead,.dead,.dead,.dead,.dead] [(0,Ob.mk true 0 (AObj.row (IV.bytes l)))] (1:Nat) []))):=by kernel_rfl
theorem f22_lp (b:List UInt8) (n:Int) (v:Int) (own:Bool) (l:List UInt8) (i:Nat) (k:AX→St→Prop):evCode C0 (loopB (bodyOf Tryd.f73) (0:Nat)) (h22 b n v own l i) k = (brn (decide ((↑i:Int) < n)) ((256:Int)≠0∧((List.map u8 [IntKind.wrap IntKind.u8 (Int.tmod v (256:Int))]).length + l.length) * 1≤140737488355328∧(List.map u8 [IntKind.wrap IntKind.u8 (Int.tmod v (256:Int))]).length + l.length≤140737488355328∧(256:Int)≠0∧k AX.normal (St.mk [.imm (.bytes b),.imm (.int .i64 n),.imm (.int IntKind.u64 (IntKind.wrap IntKind.u64 (Int.tdiv v (256:Int)))),.dead,.dead,.dead,.dead,AV.row (1:Nat) (0:Nat),.imm (.int .i64 (IntKind.wrap .i64 ((↑i:Int) + 1))),.dead,.imm (.int .i64 (↑i:Int)),.imm (.int .i64 n),.imm (.bool (decide ((↑i:Int) < n))),.imm (.int .i64 (↑i:Int)),.imm (.int .i64 (IntKind.wrap .i64 ((↑i:Int) + 1))),.imm (.int IntKind.u64 v),.imm (.int IntKind.u64 (Int.tmod v (256:Int))),.imm (.int .u8 (IntKind.wrap IntKind.u8 (Int.tmod v (256:Int)))),.full (IV.bytes (List.map u8 [IntKind.wrap IntKind.u8 (Int.tmod v (256:Int))])),AV.row (0:Nat) (0:Nat),AV.row (1:Nat) (0:Nat),.imm (.int IntKind.u64 v),
 .imm (.int IntKind.u64 (IntKind.wrap IntKind.u64 (Int.tdiv v (256:Int)))),.dead,.dead,.dead,.dead,.dead] [((0:Nat),Ob.mk own (0:Nat) (AObj.row (IV.bytes l))),((1:Nat),Ob.mk (bif noneIV ((fun l=>IV.bytes (List.map u8 l)) [IntKind.wrap IntKind.u8 (Int.tmod v (256:Int))]) then true else someIV (IV.bytes l)) (0:Nat) (AObj.row (IV.bytes (List.map u8 [IntKind.wrap IntKind.u8 (Int.tmod v (256:Int))] ++ l))))] (2:Nat) [])) (k (AX.exit (0:Nat)) (St.mk [.imm (.bytes b),.imm (.int .i64 n),.imm (.int IntKind.u64 v),.dead,.dead,.dead,.dead,AV.row (0:Nat) (0:Nat),.imm (.int .i64 (↑i:Int)),.dead,.imm (.int .i64 (↑i:Int)),.imm (.int .i64 n),.imm (.bool (decide ((↑i:Int) < n))),.dead,.dead,.dead,.dead,.dead,.dead,.dead,.dead,.dead,.dead,.dead,.dead,.dead,.dead,.dead] [((0:Nat),Ob.mk own (0:Nat) (AObj.row (IV.bytes l)))] (1:Nat) []))):=by kernel_rfl
theorem f12_lp (xs:List (List IV)) (l:List UInt8) (i:Nat) (k:AX→St→Prop):evCode C3 (loopB (bodyOf Tryd.f55) (0:Nat)) (h12 xs l i) k = (brn (decide ((↑i:Int) < (xs.length:Int))) ((0:Int)≤(↑i:Int)∧(↑i:Int) < (xs.length:Int)∧kcells (List.getD xs (↑i:Int).toNat []) (0:Nat) (lapp [CK.int IntKind.i32] (lapp [CK.bool] (lapp [CK.int IntKind.u8] []))) = List.getD xs (↑i:Int).toNat []∧(l.length:Int)≤1000000000000∧(0:Int)≤4∧(4:Int)≤8∧(0:Int)≤IntKind.wrap IntKind.u64 (IntKind.wrap .i64 (ivInt (ivNth (List.getD xs (↑i:Int).toNat []) (0:Nat))))∧IntKind.wrap IntKind.u64 (IntKind.wrap .i64 (ivInt (ivNth (List.getD xs (↑i:Int).toNat []) (0:Nat)))) < 18446744073709551616∧brn (ivBool (ivNth (List.getD xs (↑i:Int).toNat []) ((0:Nat) + 1))) (((l ++ be (4:Int).toNat (IntKind.wrap IntKind.u64 (IntKind.wrap .i64 (ivInt (ivNth (List.getD xs (↑i:Int).toNat []) (0:Nat))))).toNat).length + (List.map u8 [(1:Int),ivInt (ivNth (List.getD xs (↑i:Int).toNat []) ((0:Nat) + 1 + 1))]).length) * 1≤140737488355328∧(l ++ be (4:Int).toNat (IntKind.wrap IntKind.u64 (IntKind.wrap .i64 (ivInt (ivNth (List.getD xs (↑i :
 Int).toNat []) (0:Nat))))).toNat).length + (List.map u8 [(1:Int),ivInt (ivNth (List.getD xs (↑i:Int).toNat []) ((0:Nat) + 1 + 1))]).length≤140737488355328∧k AX.normal (St.mk (lapp [.dead,.dead,.dead,AV.row (2:Nat) (1:Nat),.dead,.ptr 1 0,.imm (.int .u8 1)] (lapp (dN 4) [.imm (.sl (3:Nat) xs),.imm (.int .i64 (xs.length:Int)),.imm (.int .i64 (IntKind.wrap .i64 ((↑i:Int) + 1))),.imm (.bool (decide ((↑i:Int) < (xs.length:Int)))),AV.elv [IV.int IntKind.i32 (ivInt (ivNth (List.getD xs (↑i:Int).toNat []) (0:Nat))),IV.bool (ivBool (ivNth (List.getD xs (↑i:Int).toNat []) ((0:Nat) + 1))),IV.int .u8 (ivInt (ivNth (List.getD xs (↑i:Int).toNat []) ((0:Nat) + 1 + 1)))],.agg [.imm (.int IntKind.i32 (ivInt (ivNth (List.getD xs (↑i:Int).toNat []) (0:Nat)))),.imm (.bool (ivBool (ivNth (List.getD xs (↑i:Int).toNat []) ((0:Nat) + 1)))),.imm (.int .u8 (ivInt (ivNth (List.getD xs (↑i:Int).toNat []) ((0:Nat) + 1 + 1))))],AV.row (0:Nat) (0:Nat),.ptr 1 0,.imm (.int IntKind.i32 (ivInt (ivNth (List.getD xs (↑i:Int).toNat []) (0:Nat)))),.imm (.int .i64 (IntKind.wrap .i64 (ivInt (ivNth (List.getD xs (↑i:Int).toNat []) (0:Nat))))),
 .imm (.int IntKind.u64 (IntKind.wrap IntKind.u64 (IntKind.wrap .i64 (ivInt (ivNth (List.getD xs (↑i:Int).toNat []) (0:Nat)))))),AV.row (2:Nat) (0:Nat),.ptr 1 1,.imm (.bool (ivBool (ivNth (List.getD xs (↑i:Int).toNat []) ((0:Nat) + 1)))),AV.row (2:Nat) (0:Nat),.imm (.int .u8 1),.ptr 1 2,.imm (.int .u8 (ivInt (ivNth (List.getD xs (↑i:Int).toNat []) ((0:Nat) + 1 + 1)))),.full (IV.bytes (List.map u8 [(1:Int),ivInt (ivNth (List.getD xs (↑i:Int).toNat []) ((0:Nat) + 1 + 1))])),AV.row (2:Nat) (1:Nat),.imm (.int .i64 (IntKind.wrap .i64 ((↑i:Int) + 1))),.dead])) [(0,Ob.mk false 0 (AObj.row (IV.bytes l))),(1,Ob.mk true 0 (AObj.cells [.imm (.int IntKind.i32 (ivInt (ivNth (List.getD xs (↑i:Int).toNat []) (0:Nat)))),.imm (.bool (ivBool (ivNth (List.getD xs (↑i:Int).toNat []) ((0:Nat) + 1)))),.imm (.int .u8 (ivInt (ivNth (List.getD xs (↑i:Int).toNat []) ((0:Nat) + 1 + 1))))])),(2,Ob.mk true 1 (AObj.row (IV.bytes (l ++ be (4:Int).toNat (IntKind.wrap IntKind.u64 (IntKind.wrap .i64 (ivInt (ivNth (List.getD xs (↑i:Int).toNat []) (0:Nat))))).toNat ++ List.map u8 [(1:Int),ivInt (ivNth (List.getD xs (↑i:Int).toNat []) ((0:Nat) +
 1 + 1))]))))] (3:Nat) [])) (((l ++ be (4:Int).toNat (IntKind.wrap IntKind.u64 (IntKind.wrap .i64 (ivInt (ivNth (List.getD xs (↑i:Int).toNat []) (0:Nat))))).toNat).length + (List.map u8 [(0:Int),ivInt (ivNth (List.getD xs (↑i:Int).toNat []) ((0:Nat) + 1 + 1))]).length) * 1≤140737488355328∧(l ++ be (4:Int).toNat (IntKind.wrap IntKind.u64 (IntKind.wrap .i64 (ivInt (ivNth (List.getD xs (↑i:Int).toNat []) (0:Nat))))).toNat).length + (List.map u8 [(0:Int),ivInt (ivNth (List.getD xs (↑i:Int).toNat []) ((0:Nat) + 1 + 1))]).length≤140737488355328∧k AX.normal (St.mk (lapp [.dead,.dead,.dead,AV.row (2:Nat) (1:Nat),.dead,.ptr 1 0,.imm (.int .u8 0)] (lapp (dN 4) [.imm (.sl (3:Nat) xs),.imm (.int .i64 (xs.length:Int)),.imm (.int .i64 (IntKind.wrap .i64 ((↑i:Int) + 1))),.imm (.bool (decide ((↑i:Int) < (xs.length:Int)))),AV.elv [IV.int IntKind.i32 (ivInt (ivNth (List.getD xs (↑i:Int).toNat []) (0:Nat))),IV.bool (ivBool (ivNth (List.getD xs (↑i:Int).toNat []) ((0:Nat) + 1))),IV.int .u8 (ivInt (ivNth (List.getD xs (↑i:Int).toNat []) ((0:Nat) + 1 + 1)))],.agg [.imm (.int IntKind.i32 (ivInt (ivNth (List.getD xs (↑i:Int).toNat
 []) (0:Nat)))),.imm (.bool (ivBool (ivNth (List.getD xs (↑i:Int).toNat []) ((0:Nat) + 1)))),.imm (.int .u8 (ivInt (ivNth (List.getD xs (↑i:Int).toNat []) ((0:Nat) + 1 + 1))))],AV.row (0:Nat) (0:Nat),.ptr 1 0,.imm (.int IntKind.i32 (ivInt (ivNth (List.getD xs (↑i:Int).toNat []) (0:Nat)))),.imm (.int .i64 (IntKind.wrap .i64 (ivInt (ivNth (List.getD xs (↑i:Int).toNat []) (0:Nat))))),.imm (.int IntKind.u64 (IntKind.wrap IntKind.u64 (IntKind.wrap .i64 (ivInt (ivNth (List.getD xs (↑i:Int).toNat []) (0:Nat)))))),AV.row (2:Nat) (0:Nat),.ptr 1 1,.imm (.bool (ivBool (ivNth (List.getD xs (↑i:Int).toNat []) ((0:Nat) + 1)))),AV.row (2:Nat) (0:Nat),.imm (.int .u8 0),.ptr 1 2,.imm (.int .u8 (ivInt (ivNth (List.getD xs (↑i:Int).toNat []) ((0:Nat) + 1 + 1)))),.full (IV.bytes (List.map u8 [(0:Int),ivInt (ivNth (List.getD xs (↑i:Int).toNat []) ((0:Nat) + 1 + 1))])),AV.row (2:Nat) (1:Nat),.imm (.int .i64 (IntKind.wrap .i64 ((↑i:Int) + 1))),.dead])) [(0,Ob.mk false 0 (AObj.row (IV.bytes l))),(1,Ob.mk true 0 (AObj.cells [.imm (.int IntKind.i32 (ivInt (ivNth (List.getD xs (↑i:Int).toNat []) (0:Nat)))),.imm (.bool (ivBool
 (ivNth (List.getD xs (↑i:Int).toNat []) ((0:Nat) + 1)))),.imm (.int .u8 (ivInt (ivNth (List.getD xs (↑i:Int).toNat []) ((0:Nat) + 1 + 1))))])),(2,Ob.mk true 1 (AObj.row (IV.bytes (l ++ be (4:Int).toNat (IntKind.wrap IntKind.u64 (IntKind.wrap .i64 (ivInt (ivNth (List.getD xs (↑i:Int).toNat []) (0:Nat))))).toNat ++ List.map u8 [(0:Int),ivInt (ivNth (List.getD xs (↑i:Int).toNat []) ((0:Nat) + 1 + 1))]))))] (3:Nat) []))) (k (AX.exit (0:Nat)) (St.mk (lapp [.dead,.dead,.dead,AV.row (0:Nat) (0:Nat)] (lapp (dN 7) (lapp [.imm (.sl (3:Nat) xs),.imm (.int .i64 (xs.length:Int)),.imm (.int .i64 (↑i:Int)),.imm (.bool (decide ((↑i:Int) < (xs.length:Int))))] (dN 18)))) [(0,Ob.mk true 0 (AObj.row (IV.bytes l)))] (1:Nat) []))):=by kernel_rfl
theorem f13_lp (xs:List (List IV)) (l:List UInt8) (i:Nat) (k:AX→St→Prop):evCode C3 (loopB (bodyOf Tryd.f59) (0:Nat)) (h13 xs l i) k = (brn (decide ((↑i:Int) < (xs.length:Int))) ((0:Int)≤(↑i:Int)∧(↑i:Int) < (xs.length:Int)∧kcells (List.getD xs (↑i:Int).toNat []) (0:Nat) (lapp [CK.int IntKind.i32] (lapp [CK.bool] (lapp [CK.int IntKind.u8] []))) = List.getD xs (↑i:Int).toNat []∧(l.length:Int)≤1000000000000∧(0:Int)≤4∧(4:Int)≤8∧(0:Int)≤IntKind.wrap IntKind.u64 (IntKind.wrap .i64 (ivInt (ivNth (List.getD xs (↑i:Int).toNat []) (0:Nat))))∧IntKind.wrap IntKind.u64 (IntKind.wrap .i64 (ivInt (ivNth (List.getD xs (↑i:Int).toNat []) (0:Nat)))) < 18446744073709551616∧(0:Int)≤(↑i:Int)∧(↑i:Int) < (xs.length:Int)∧kcells (List.getD xs (↑i:Int).toNat []) (0:Nat) (lapp [CK.int IntKind.i32] (lapp [CK.bool] (lapp [CK.int IntKind.u8] []))) = List.getD xs (↑i:Int).toNat []∧brn (ivBool (ivNth (List.getD xs (↑i:Int).toNat []) ((0:Nat) + 1))) ((0:Int)≤(↑i:Int)∧(↑i:Int) < (xs.length:Int)∧kcells (List.getD xs (↑i:Int).toNat []) (0:Nat) (lapp [CK.int IntKind.i32] (lapp [CK.bool] (lapp [CK.int
 IntKind.u8] []))) = List.getD xs (↑i:Int).toNat []∧((l ++ be (4:Int).toNat (IntKind.wrap IntKind.u64 (IntKind.wrap .i64 (ivInt (ivNth (List.getD xs (↑i:Int).toNat []) (0:Nat))))).toNat).length + (List.map u8 [(1:Int),ivInt (ivNth (List.getD xs (↑i:Int).toNat []) ((0:Nat) + 1 + 1))]).length) * 1≤140737488355328∧(l ++ be (4:Int).toNat (IntKind.wrap IntKind.u64 (IntKind.wrap .i64 (ivInt (ivNth (List.getD xs (↑i:Int).toNat []) (0:Nat))))).toNat).length + (List.map u8 [(1:Int),ivInt (ivNth (List.getD xs (↑i:Int).toNat []) ((0:Nat) + 1 + 1))]).length≤140737488355328∧k AX.normal (St.mk [.imm (.sl (3:Nat) xs),.dead,.dead,AV.row (1:Nat) (1:Nat),.imm (.int .i64 (IntKind.wrap .i64 ((↑i:Int) + 1))),.imm (.int .u8 1),.imm (.int .i64 (↑i:Int)),.imm (.sl (3:Nat) xs),.imm (.int .i64 (xs.length:Int)),.imm (.bool (decide ((↑i:Int) < (xs.length:Int)))),.imm (.int .i64 (↑i:Int)),.imm (.int .i64 (IntKind.wrap .i64 ((↑i:Int) + 1))),AV.row (0:Nat) (0:Nat),.imm (.sl (3:Nat) xs),.imm (.int .i64 (↑i:Int)),AV.elv [IV.int IntKind.i32 (ivInt (ivNth (List.getD xs (↑i:Int).toNat []) (0:Nat))),IV.bool (ivBool (ivNth (List.getD
 xs (↑i:Int).toNat []) ((0:Nat) + 1))),IV.int .u8 (ivInt (ivNth (List.getD xs (↑i:Int).toNat []) ((0:Nat) + 1 + 1)))],AV.elv [IV.int IntKind.i32 (ivInt (ivNth (List.getD xs (↑i:Int).toNat []) (0:Nat))),IV.bool (ivBool (ivNth (List.getD xs (↑i:Int).toNat []) ((0:Nat) + 1))),IV.int .u8 (ivInt (ivNth (List.getD xs (↑i:Int).toNat []) ((0:Nat) + 1 + 1)))],.imm (.int IntKind.i32 (ivInt (ivNth (List.getD xs (↑i:Int).toNat []) (0:Nat)))),.imm (.int .i64 (IntKind.wrap .i64 (ivInt (ivNth (List.getD xs (↑i:Int).toNat []) (0:Nat))))),.imm (.int IntKind.u64 (IntKind.wrap IntKind.u64 (IntKind.wrap .i64 (ivInt (ivNth (List.getD xs (↑i:Int).toNat []) (0:Nat)))))),AV.row (1:Nat) (0:Nat),.imm (.sl (3:Nat) xs),.imm (.int .i64 (↑i:Int)),AV.elv [IV.int IntKind.i32 (ivInt (ivNth (List.getD xs (↑i:Int).toNat []) (0:Nat))),IV.bool (ivBool (ivNth (List.getD xs (↑i:Int).toNat []) ((0:Nat) + 1))),IV.int .u8 (ivInt (ivNth (List.getD xs (↑i:Int).toNat []) ((0:Nat) + 1 + 1)))],AV.elv [IV.bool (ivBool (ivNth (List.getD xs (↑i:Int).toNat []) ((0:Nat) + 1))),IV.int .u8 (ivInt (ivNth (List.getD xs (↑i:Int).toNat []) ((0:Nat) + 1 + 1)))],.imm
 (.bool (ivBool (ivNth (List.getD xs (↑i:Int).toNat []) ((0:Nat) + 1)))),AV.row (1:Nat) (0:Nat),.imm (.int .u8 1),.imm (.sl (3:Nat) xs),.imm (.int .i64 (↑i:Int)),AV.elv [IV.int IntKind.i32 (ivInt (ivNth (List.getD xs (↑i:Int).toNat []) (0:Nat))),IV.bool (ivBool (ivNth (List.getD xs (↑i:Int).toNat []) ((0:Nat) + 1))),IV.int .u8 (ivInt (ivNth (List.getD xs (↑i:Int).toNat []) ((0:Nat) + 1 + 1)))],AV.elv [IV.int .u8 (ivInt (ivNth (List.getD xs (↑i:Int).toNat []) ((0:Nat) + 1 + 1)))],.imm (.int .u8 (ivInt (ivNth (List.getD xs (↑i:Int).toNat []) ((0:Nat) + 1 + 1)))),.full (IV.bytes (List.map u8 [(1:Int),ivInt (ivNth (List.getD xs (↑i:Int).toNat []) ((0:Nat) + 1 + 1))])),AV.row (1:Nat) (1:Nat),.dead] [(0,Ob.mk false 0 (AObj.row (IV.bytes l))),(1,Ob.mk true 1 (AObj.row (IV.bytes (l ++ be (4:Int).toNat (IntKind.wrap IntKind.u64 (IntKind.wrap .i64 (ivInt (ivNth (List.getD xs (↑i:Int).toNat []) (0:Nat))))).toNat ++ List.map u8 [(1:Int),ivInt (ivNth (List.getD xs (↑i:Int).toNat []) ((0:Nat) + 1 + 1))]))))] (2:Nat) [])) ((0:Int)≤(↑i:Int)∧(↑i:Int) < (xs.length:Int)∧kcells (List.getD xs (↑i:Int).toNat []) (0 :
 Nat) (lapp [CK.int IntKind.i32] (lapp [CK.bool] (lapp [CK.int IntKind.u8] []))) = List.getD xs (↑i:Int).toNat []∧((l ++ be (4:Int).toNat (IntKind.wrap IntKind.u64 (IntKind.wrap .i64 (ivInt (ivNth (List.getD xs (↑i:Int).toNat []) (0:Nat))))).toNat).length + (List.map u8 [(0:Int),ivInt (ivNth (List.getD xs (↑i:Int).toNat []) ((0:Nat) + 1 + 1))]).length) * 1≤140737488355328∧(l ++ be (4:Int).toNat (IntKind.wrap IntKind.u64 (IntKind.wrap .i64 (ivInt (ivNth (List.getD xs (↑i:Int).toNat []) (0:Nat))))).toNat).length + (List.map u8 [(0:Int),ivInt (ivNth (List.getD xs (↑i:Int).toNat []) ((0:Nat) + 1 + 1))]).length≤140737488355328∧k AX.normal (St.mk [.imm (.sl (3:Nat) xs),.dead,.dead,AV.row (1:Nat) (1:Nat),.imm (.int .i64 (IntKind.wrap .i64 ((↑i:Int) + 1))),.imm (.int .u8 0),.imm (.int .i64 (↑i:Int)),.imm (.sl (3:Nat) xs),.imm (.int .i64 (xs.length:Int)),.imm (.bool (decide ((↑i:Int) < (xs.length:Int)))),.imm (.int .i64 (↑i:Int)),.imm (.int .i64 (IntKind.wrap .i64 ((↑i:Int) + 1))),AV.row (0:Nat) (0:Nat),.imm (.sl (3:Nat) xs),.imm (.int .i64 (↑i:Int)),AV.elv [IV.int IntKind.i32 (ivInt (ivNth (List.getD xs (↑i :
 Int).toNat []) (0:Nat))),IV.bool (ivBool (ivNth (List.getD xs (↑i:Int).toNat []) ((0:Nat) + 1))),IV.int .u8 (ivInt (ivNth (List.getD xs (↑i:Int).toNat []) ((0:Nat) + 1 + 1)))],AV.elv [IV.int IntKind.i32 (ivInt (ivNth (List.getD xs (↑i:Int).toNat []) (0:Nat))),IV.bool (ivBool (ivNth (List.getD xs (↑i:Int).toNat []) ((0:Nat) + 1))),IV.int .u8 (ivInt (ivNth (List.getD xs (↑i:Int).toNat []) ((0:Nat) + 1 + 1)))],.imm (.int IntKind.i32 (ivInt (ivNth (List.getD xs (↑i:Int).toNat []) (0:Nat)))),.imm (.int .i64 (IntKind.wrap .i64 (ivInt (ivNth (List.getD xs (↑i:Int).toNat []) (0:Nat))))),.imm (.int IntKind.u64 (IntKind.wrap IntKind.u64 (IntKind.wrap .i64 (ivInt (ivNth (List.getD xs (↑i:Int).toNat []) (0:Nat)))))),AV.row (1:Nat) (0:Nat),.imm (.sl (3:Nat) xs),.imm (.int .i64 (↑i:Int)),AV.elv [IV.int IntKind.i32 (ivInt (ivNth (List.getD xs (↑i:Int).toNat []) (0:Nat))),IV.bool (ivBool (ivNth (List.getD xs (↑i:Int).toNat []) ((0:Nat) + 1))),IV.int .u8 (ivInt (ivNth (List.getD xs (↑i:Int).toNat []) ((0:Nat) + 1 + 1)))],AV.elv [IV.bool (ivBool (ivNth (List.getD xs (↑i:Int).toNat []) ((0:Nat) + 1))),IV.int .u8 (ivInt (ivNth
 (List.getD xs (↑i:Int).toNat []) ((0:Nat) + 1 + 1)))],.imm (.bool (ivBool (ivNth (List.getD xs (↑i:Int).toNat []) ((0:Nat) + 1)))),AV.row (1:Nat) (0:Nat),.imm (.int .u8 0),.imm (.sl (3:Nat) xs),.imm (.int .i64 (↑i:Int)),AV.elv [IV.int IntKind.i32 (ivInt (ivNth (List.getD xs (↑i:Int).toNat []) (0:Nat))),IV.bool (ivBool (ivNth (List.getD xs (↑i:Int).toNat []) ((0:Nat) + 1))),IV.int .u8 (ivInt (ivNth (List.getD xs (↑i:Int).toNat []) ((0:Nat) + 1 + 1)))],AV.elv [IV.int .u8 (ivInt (ivNth (List.getD xs (↑i:Int).toNat []) ((0:Nat) + 1 + 1)))],.imm (.int .u8 (ivInt (ivNth (List.getD xs (↑i:Int).toNat []) ((0:Nat) + 1 + 1)))),.full (IV.bytes (List.map u8 [(0:Int),ivInt (ivNth (List.getD xs (↑i:Int).toNat []) ((0:Nat) + 1 + 1))])),AV.row (1:Nat) (1:Nat),.dead] [(0,Ob.mk false 0 (AObj.row (IV.bytes l))),(1,Ob.mk true 1 (AObj.row (IV.bytes (l ++ be (4:Int).toNat (IntKind.wrap IntKind.u64 (IntKind.wrap .i64 (ivInt (ivNth (List.getD xs (↑i:Int).toNat []) (0:Nat))))).toNat ++ List.map u8 [(0:Int),ivInt (ivNth (List.getD xs (↑i:Int).toNat []) ((0:Nat) + 1 + 1))]))))] (2:Nat) []))) (k (AX.exit (0:Nat)) (St.mk (lapp [.imm
 (.sl (3:Nat) xs),.dead,.dead,AV.row (0:Nat) (0:Nat),.imm (.int .i64 (↑i:Int)),.dead,.imm (.int .i64 (↑i:Int)),.imm (.sl (3:Nat) xs),.imm (.int .i64 (xs.length:Int)),.imm (.bool (decide ((↑i:Int) < (xs.length:Int))))] (dN 26)) [(0,Ob.mk true 0 (AObj.row (IV.bytes l)))] (1:Nat) []))):=by kernel_rfl
theorem f9_lpa (b:List UInt8) (i:Nat) (k:AX→St→Prop):evCode C2 (loopB (bodyOf Tryd.f39) (0:Nat)) (h9a b i) k = ((6:Int)≠0∧brn (decide ((↑i:Int) < IntKind.wrap .i64 (Int.tdiv (b.length:Int) (6:Int)))) ((0:Int)≤IntKind.wrap .i64 (IntKind.wrap .i64 ((6:Int) * (↑i:Int)) + 4)∧IntKind.wrap .i64 (IntKind.wrap .i64 ((6:Int) * (↑i:Int)) + 4) < (b.length:Int)∧brn (decide ((↑(UInt8.toNat (List.getD b (IntKind.wrap .i64 (IntKind.wrap .i64 ((6:Int) * (↑i:Int)) + 4)).toNat (0:UInt8))):Int) > 1)) (k AX.ret (St.mk [.imm (.bytes b),.dead,.full (IV.sl (3:Nat) []),.imm (.bool false),.imm (.int .i64 (↑i:Int)),.dead,.dead,.dead,.dead,.imm (.int .i64 (↑i:Int)),.imm (.bytes b),.imm (.int .i64 (b.length:Int)),.imm (.int .i64 (IntKind.wrap .i64 (Int.tdiv (b.length:Int) (6:Int)))),.imm (.bool (decide ((↑i:Int) < IntKind.wrap .i64 (Int.tdiv (b.length:Int) (6:Int))))),.dead,.dead,.imm (.bytes b),.imm (.int .i64 (↑i:Int)),.imm (.int .i64 (IntKind.wrap .i64 ((6:Int) * (↑i:Int)))),.imm (.int .i64 (IntKind.wrap .i64 (IntKind.wrap .i64 ((6:Int) * (↑i:Int)) + 4))),AV.elv [IV.int .u8 (↑(UInt8.toNat (List.getD b
 (IntKind.wrap .i64 (IntKind.wrap .i64 ((6:Int) * (↑i:Int)) + 4)).toNat (0:UInt8))):Int)],.imm (.int .u8 (↑(UInt8.toNat (List.getD b (IntKind.wrap .i64 (IntKind.wrap .i64 ((6:Int) * (↑i:Int)) + 4)).toNat (0:UInt8))):Int)),.imm (.bool (decide ((↑(UInt8.toNat (List.getD b (IntKind.wrap .i64 (IntKind.wrap .i64 ((6:Int) * (↑i:Int)) + 4)).toNat (0:UInt8))):Int) > 1))),.dead,.dead,.dead,.dead,.dead,.dead,.dead,.dead,.dead,.dead,.dead,.dead,.dead,.dead,.dead,.dead,.dead,.dead,.dead,.dead,.dead,.dead,.dead,.dead,.dead,.dead,.dead,.dead,.dead,.dead,.dead,.dead,.dead,.dead] [] (0:Nat) [])) (k AX.normal (St.mk [.imm (.bytes b),.dead,.dead,.dead,.imm (.int .i64 (IntKind.wrap .i64 ((↑i:Int) + 1))),.dead,.dead,.dead,.dead,.imm (.int .i64 (↑i:Int)),.imm (.bytes b),.imm (.int .i64 (b.length:Int)),.imm (.int .i64 (IntKind.wrap .i64 (Int.tdiv (b.length:Int) (6:Int)))),.imm (.bool (decide ((↑i:Int) < IntKind.wrap .i64 (Int.tdiv (b.length:Int) (6:Int))))),.imm (.int .i64 (↑i:Int)),.imm (.int .i64 (IntKind.wrap .i64 ((↑i:Int) + 1))),.imm (.bytes b),.imm (.int .i64 (↑i:Int)),.imm (.int .i64 (IntKind.wrap
 .i64 ((6:Int) * (↑i:Int)))),.imm (.int .i64 (IntKind.wrap .i64 (IntKind.wrap .i64 ((6:Int) * (↑i:Int)) + 4))),AV.elv [IV.int .u8 (↑(UInt8.toNat (List.getD b (IntKind.wrap .i64 (IntKind.wrap .i64 ((6:Int) * (↑i:Int)) + 4)).toNat (0:UInt8))):Int)],.imm (.int .u8 (↑(UInt8.toNat (List.getD b (IntKind.wrap .i64 (IntKind.wrap .i64 ((6:Int) * (↑i:Int)) + 4)).toNat (0:UInt8))):Int)),.imm (.bool (decide ((↑(UInt8.toNat (List.getD b (IntKind.wrap .i64 (IntKind.wrap .i64 ((6:Int) * (↑i:Int)) + 4)).toNat (0:UInt8))):Int) > 1))),.dead,.dead,.dead,.dead,.dead,.dead,.dead,.dead,.dead,.dead,.dead,.dead,.dead,.dead,.dead,.dead,.dead,.dead,.dead,.dead,.dead,.dead,.dead,.dead,.dead,.dead,.dead,.dead,.dead,.dead,.dead,.dead,.dead,.dead] [] (0:Nat) []))) (k (AX.exit (0:Nat)) (St.mk [.imm (.bytes b),.dead,.dead,.dead,.imm (.int .i64 (↑i:Int)),.dead,.dead,.dead,.dead,.imm (.int .i64 (↑i:Int)),.imm (.bytes b),.imm (.int .i64 (b.length:Int)),.imm (.int .i64 (IntKind.wrap .i64 (Int.tdiv (b.length:Int) (6:Int)))),.imm (.bool (decide ((↑i:Int) < IntKind.wrap .i64 (Int.tdiv (b.length:Int) (6:Int))))),.dead,
 .dead,.dead,.dead,.dead,.dead,.dead,.dead,.dead,.dead,.dead,.dead,.dead,.dead,.dead,.dead,.dead,.dead,.dead,.dead,.dead,.dead,.dead,.dead,.dead,.dead,.dead,.dead,.dead,.dead,.dead,.dead,.dead,.dead,.dead,.dead,.dead,.dead,.dead,.dead,.dead,.dead,.dead] [] (0:Nat) []))):=by kernel_rfl
theorem f9_lpb (b:List UInt8) (L:List Ty) (i:Nat) (k:AX→St→Prop):evCode C2 (loopB (bodyOf Tryd.f39) (1:Nat)) (h9b b L i) k = ((6:Int)≠0∧brn (decide ((↑i:Int) < IntKind.wrap .i64 (Int.tdiv (b.length:Int) (6:Int)))) ((b.length:Int)≤big∧(0:Int)≤IntKind.wrap .i64 ((6:Int) * (↑i:Int))∧IntKind.wrap .i64 ((6:Int) * (↑i:Int))≤big∧(1:Int)≤4∧(4:Int)≤8∧(0:Int)≤IntKind.wrap .i64 (IntKind.wrap .i64 ((6:Int) * (↑i:Int)) + 4)∧IntKind.wrap .i64 (IntKind.wrap .i64 ((6:Int) * (↑i:Int)) + 4) < (b.length:Int)∧(0:Int)≤IntKind.wrap .i64 (IntKind.wrap .i64 ((6:Int) * (↑i:Int)) + 5)∧IntKind.wrap .i64 (IntKind.wrap .i64 ((6:Int) * (↑i:Int)) + 5) < (b.length:Int)∧((List.map cellsT L).length + List.length [[IV.int IntKind.i32 (IntKind.wrap IntKind.i32 (sgnN (4:Int).toNat (uintP b (IntKind.wrap .i64 ((6:Int) * (↑i:Int))).toNat (4:Int).toNat))),IV.bool ((↑(UInt8.toNat (List.getD b (IntKind.wrap .i64 (IntKind.wrap .i64 ((6:Int) * (↑i:Int)) + 4)).toNat (0:UInt8))):Int) == 1),IV.int .u8 (↑(UInt8.toNat (List.getD b (IntKind.wrap .i64 (IntKind.wrap .i64 ((6:Int) * (↑i:Int)) + 5)).toNat (0 :
 UInt8))):Int)]]) * 8≤140737488355328∧(List.map cellsT L).length + List.length [[IV.int IntKind.i32 (IntKind.wrap IntKind.i32 (sgnN (4:Int).toNat (uintP b (IntKind.wrap .i64 ((6:Int) * (↑i:Int))).toNat (4:Int).toNat))),IV.bool ((↑(UInt8.toNat (List.getD b (IntKind.wrap .i64 (IntKind.wrap .i64 ((6:Int) * (↑i:Int)) + 4)).toNat (0:UInt8))):Int) == 1),IV.int .u8 (↑(UInt8.toNat (List.getD b (IntKind.wrap .i64 (IntKind.wrap .i64 ((6:Int) * (↑i:Int)) + 5)).toNat (0:UInt8))):Int)]]≤140737488355328∧k AX.normal (St.mk [.imm (.bytes b),.dead,.dead,.dead,.dead,AV.row (0:Nat) (1:Nat),.imm (.int .i64 (IntKind.wrap .i64 ((↑i:Int) + 1))),.imm (.int .i64 (sgnN (4:Int).toNat (uintP b (IntKind.wrap .i64 ((6:Int) * (↑i:Int))).toNat (4:Int).toNat))),.imm (.bool (okR b (IntKind.wrap .i64 ((6:Int) * (↑i:Int))).toNat (4:Int).toNat)),.dead,.dead,.dead,.dead,.dead,.dead,.dead,.dead,.dead,.dead,.dead,.dead,.dead,.dead,.imm (.int .i64 (↑i:Int)),.imm (.bytes b),.imm (.int .i64 (b.length:Int)),.imm (.int .i64 (IntKind.wrap .i64 (Int.tdiv (b.length:Int) (6:Int)))),.imm (.bool (decide ((↑i:Int) < IntKind.wrap .i64 (Int.tdiv
 (b.length:Int) (6:Int))))),.imm (.int .i64 (↑i:Int)),.imm (.int .i64 (IntKind.wrap .i64 ((↑i:Int) + 1))),.tup [.imm (.int .i64 (sgnN (4:Int).toNat (uintP b (IntKind.wrap .i64 ((6:Int) * (↑i:Int))).toNat (4:Int).toNat))),.imm (.bool (okR b (IntKind.wrap .i64 ((6:Int) * (↑i:Int))).toNat (4:Int).toNat))],.imm (.bytes b),.imm (.int .i64 (↑i:Int)),.imm (.int .i64 (IntKind.wrap .i64 ((6:Int) * (↑i:Int)))),.tup [.imm (.int .i64 (sgnN (4:Int).toNat (uintP b (IntKind.wrap .i64 ((6:Int) * (↑i:Int))).toNat (4:Int).toNat))),.imm (.bool (okR b (IntKind.wrap .i64 ((6:Int) * (↑i:Int))).toNat (4:Int).toNat))],.imm (.int .i64 (sgnN (4:Int).toNat (uintP b (IntKind.wrap .i64 ((6:Int) * (↑i:Int))).toNat (4:Int).toNat))),.imm (.bool (okR b (IntKind.wrap .i64 ((6:Int) * (↑i:Int))).toNat (4:Int).toNat)),AV.row (0:Nat) (0:Nat),.imm (.int .i64 (sgnN (4:Int).toNat (uintP b (IntKind.wrap .i64 ((6:Int) * (↑i:Int))).toNat (4:Int).toNat))),.imm (.int IntKind.i32 (IntKind.wrap IntKind.i32 (sgnN (4:Int).toNat (uintP b (IntKind.wrap .i64 ((6:Int) * (↑i:Int))).toNat (4:Int).toNat)))),.imm (.bytes b),.imm (.int .i64 (↑i :
 Int)),.imm (.int .i64 (IntKind.wrap .i64 ((6:Int) * (↑i:Int)))),.imm (.int .i64 (IntKind.wrap .i64 (IntKind.wrap .i64 ((6:Int) * (↑i:Int)) + 4))),AV.elv [IV.int .u8 (↑(UInt8.toNat (List.getD b (IntKind.wrap .i64 (IntKind.wrap .i64 ((6:Int) * (↑i:Int)) + 4)).toNat (0:UInt8))):Int)],.imm (.int .u8 (↑(UInt8.toNat (List.getD b (IntKind.wrap .i64 (IntKind.wrap .i64 ((6:Int) * (↑i:Int)) + 4)).toNat (0:UInt8))):Int)),.imm (.bool ((↑(UInt8.toNat (List.getD b (IntKind.wrap .i64 (IntKind.wrap .i64 ((6:Int) * (↑i:Int)) + 4)).toNat (0:UInt8))):Int) == 1)),.imm (.bytes b),.imm (.int .i64 (↑i:Int)),.imm (.int .i64 (IntKind.wrap .i64 ((6:Int) * (↑i:Int)))),.imm (.int .i64 (IntKind.wrap .i64 (IntKind.wrap .i64 ((6:Int) * (↑i:Int)) + 5))),AV.elv [IV.int .u8 (↑(UInt8.toNat (List.getD b (IntKind.wrap .i64 (IntKind.wrap .i64 ((6:Int) * (↑i:Int)) + 5)).toNat (0:UInt8))):Int)],.imm (.int .u8 (↑(UInt8.toNat (List.getD b (IntKind.wrap .i64 (IntKind.wrap .i64 ((6:Int) * (↑i:Int)) + 5)).toNat (0:UInt8))):Int)),.agg [.imm (.int IntKind.i32 (IntKind.wrap IntKind.i32 (sgnN (4:Int).toNat (uintP b (IntKind.wrap .i64 ((6:Int) * (↑i :
 Int))).toNat (4:Int).toNat)))),.imm (.bool ((↑(UInt8.toNat (List.getD b (IntKind.wrap .i64 (IntKind.wrap .i64 ((6:Int) * (↑i:Int)) + 4)).toNat (0:UInt8))):Int) == 1)),.imm (.int .u8 (↑(UInt8.toNat (List.getD b (IntKind.wrap .i64 (IntKind.wrap .i64 ((6:Int) * (↑i:Int)) + 5)).toNat (0:UInt8))):Int))],.full (IV.sl (3:Nat) [[IV.int IntKind.i32 (IntKind.wrap IntKind.i32 (sgnN (4:Int).toNat (uintP b (IntKind.wrap .i64 ((6:Int) * (↑i:Int))).toNat (4:Int).toNat))),IV.bool ((↑(UInt8.toNat (List.getD b (IntKind.wrap .i64 (IntKind.wrap .i64 ((6:Int) * (↑i:Int)) + 4)).toNat (0:UInt8))):Int) == 1),IV.int .u8 (↑(UInt8.toNat (List.getD b (IntKind.wrap .i64 (IntKind.wrap .i64 ((6:Int) * (↑i:Int)) + 5)).toNat (0:UInt8))):Int)]]),AV.row (0:Nat) (1:Nat),.dead] [(0,Ob.mk true 1 (AObj.row (IV.sl (3:Nat) (List.map cellsT L ++ [[IV.int IntKind.i32 (IntKind.wrap IntKind.i32 (sgnN (4:Int).toNat (uintP b (IntKind.wrap .i64 ((6:Int) * (↑i:Int))).toNat (4:Int).toNat))),IV.bool ((↑(UInt8.toNat (List.getD b (IntKind.wrap .i64 (IntKind.wrap .i64 ((6:Int) * (↑i:Int)) + 4)).toNat (0:UInt8))):Int) == 1),IV.int .u8 (↑(UInt8.toNat (List.getD b
 (IntKind.wrap .i64 (IntKind.wrap .i64 ((6:Int) * (↑i:Int)) + 5)).toNat (0:UInt8))):Int)]]))))] (1:Nat) [])) (k (AX.exit (2:Nat)) (St.mk [.imm (.bytes b),.dead,.dead,.dead,.dead,AV.row (0:Nat) (0:Nat),.imm (.int .i64 (↑i:Int)),.dead,.dead,.dead,.dead,.dead,.dead,.dead,.dead,.dead,.dead,.dead,.dead,.dead,.dead,.dead,.dead,.imm (.int .i64 (↑i:Int)),.imm (.bytes b),.imm (.int .i64 (b.length:Int)),.imm (.int .i64 (IntKind.wrap .i64 (Int.tdiv (b.length:Int) (6:Int)))),.imm (.bool (decide ((↑i:Int) < IntKind.wrap .i64 (Int.tdiv (b.length:Int) (6:Int))))),.dead,.dead,.dead,.dead,.dead,.dead,.dead,.dead,.dead,.dead,.dead,.dead,.dead,.dead,.dead,.dead,.dead,.dead,.dead,.dead,.dead,.dead,.dead,.dead,.dead,.dead,.dead,.dead,.dead] [(0,Ob.mk true 0 (AObj.row (IV.sl (3:Nat) (List.map cellsT L))))] (1:Nat) []))):=by kernel_rfl
theorem f8_in (b:List UInt8) (K:List AV→Prop):evSpec C8 Tryd.f31 [.imm (.bytes b)] K = (LoopI C8 (bodyOf Tryd.f31) (0:Nat) (St.mk (lapp [.imm (.bytes b),.dead,.full (IV.sl (3:Nat) []),.imm (.bool false),.full (IV.sl (3:Nat) []),.imm (.int .i64 0)] (dN 27)) [] (0:Nat) []) (finK C8 Tryd.f31 K)):=by kernel_rfl
theorem f8_lp (b:List UInt8) (L:List Ty) (i:Nat) (k:AX→St→Prop):evCode C8 (loopB (bodyOf Tryd.f31) (0:Nat)) (h8 b L i) k = (brn (decide (IntKind.wrap .i64 ((↑i:Int) + 6)≤(b.length:Int))) ((0:Int)≤(↑i:Int)∧(↑i:Int)≤IntKind.wrap .i64 ((↑i:Int) + 6)∧IntKind.wrap .i64 ((↑i:Int) + 6)≤(b.length:Int)∧(↑(List.take ((IntKind.wrap .i64 ((↑i:Int) + 6)).toNat - (↑i:Int).toNat) (List.drop (↑i:Int).toNat b)).length:Int)≤big∧(0:Int)≤0∧(0:Int)≤big∧(1:Int)≤4∧(4:Int)≤8∧(0:Int)≤4∧(4:Int) < (↑(List.take ((IntKind.wrap .i64 ((↑i:Int) + 6)).toNat - (↑i:Int).toNat) (List.drop (↑i:Int).toNat b)).length:Int)∧brn (decide ((↑(UInt8.toNat (List.getD (List.take ((IntKind.wrap .i64 ((↑i:Int) + 6)).toNat - (↑i:Int).toNat) (List.drop (↑i:Int).toNat b)) (4:Int).toNat (0:UInt8))):Int) > 1)) ((0:Int)≤4∧(4:Int) < (↑(List.take ((IntKind.wrap .i64 ((↑i:Int) + 6)).toNat - (↑i:Int).toNat) (List.drop (↑i:Int).toNat b)).length:Int)∧(0:Int)≤0∧(0:Int) < (↑(List.length [[IV.iface (97:Nat) (IV.int .u8 (↑(UInt8.toNat (List.getD (List.take ((IntKind.wrap .i64 ((↑i:Int) + 6)).toNat - (↑i :
 Int).toNat) (List.drop (↑i:Int).toNat b)) (4:Int).toNat (0:UInt8))):Int))]]):Int)∧kcells (List.getD [[IV.iface (97:Nat) (IV.int .u8 (↑(UInt8.toNat (List.getD (List.take ((IntKind.wrap .i64 ((↑i:Int) + 6)).toNat - (↑i:Int).toNat) (List.drop (↑i:Int).toNat b)) (4:Int).toNat (0:UInt8))):Int))]] (0:Int).toNat []) (0:Nat) [CK.any] = List.getD [[IV.iface (97:Nat) (IV.int .u8 (↑(UInt8.toNat (List.getD (List.take ((IntKind.wrap .i64 ((↑i:Int) + 6)).toNat - (↑i:Int).toNat) (List.drop (↑i:Int).toNat b)) (4:Int).toNat (0:UInt8))):Int))]] (0:Int).toNat []∧(0:Int)≤0∧(0:Int)≤IntKind.wrap .i64 ((0:Int) + 1)∧(↑(16:Nat):Int) * IntKind.wrap .i64 ((0:Int) + 1)≤140737488355328∧IntKind.wrap .i64 ((0:Int) + 1)≤140737488355328∧(0:Int)≤0∧(0:Int) < (↑(List.length [[IV.iface (97:Nat) (IV.int .u8 (↑(UInt8.toNat (List.getD (List.take ((IntKind.wrap .i64 ((↑i:Int) + 6)).toNat - (↑i:Int).toNat) (List.drop (↑i:Int).toNat b)) (4:Int).toNat (0:UInt8))):Int))]]):Int)∧kcells (List.getD [[IV.iface (97:Nat) (IV.int .u8 (↑(UInt8.toNat (List.getD (List.take ((IntKind.wrap .i64 ((↑i:Int) + 6)).toNat - (↑i :
 Int).toNat) (List.drop (↑i:Int).toNat b)) (4:Int).toNat (0:UInt8))):Int))]] (0:Int).toNat []) (0:Nat) [CK.any] = List.getD [[IV.iface (97:Nat) (IV.int .u8 (↑(UInt8.toNat (List.getD (List.take ((IntKind.wrap .i64 ((↑i:Int) + 6)).toNat - (↑i:Int).toNat) (List.drop (↑i:Int).toNat b)) (4:Int).toNat (0:UInt8))):Int))]] (0:Int).toNat []∧((List.replicate (0:Int).toNat [IV.val Value.nilIface]).length + List.length [[kcell CK.any (ivNth (List.getD [[IV.iface (97:Nat) (IV.int .u8 (↑(UInt8.toNat (List.getD (List.take ((IntKind.wrap .i64 ((↑i:Int) + 6)).toNat - (↑i:Int).toNat) (List.drop (↑i:Int).toNat b)) (4:Int).toNat (0:UInt8))):Int))]] (0:Int).toNat []) (0:Nat))]]) * 16≤140737488355328∧(List.replicate (0:Int).toNat [IV.val Value.nilIface]).length + List.length [[kcell CK.any (ivNth (List.getD [[IV.iface (97:Nat) (IV.int .u8 (↑(UInt8.toNat (List.getD (List.take ((IntKind.wrap .i64 ((↑i:Int) + 6)).toNat - (↑i:Int).toNat) (List.drop (↑i:Int).toNat b)) (4:Int).toNat (0:UInt8))):Int))]] (0:Int).toNat []) (0:Nat))]]≤140737488355328∧k AX.ret (St.mk [.imm (.bytes b),.dead,.full (IV.sl (3:Nat) []),.imm (.bool false),
 AV.row (0:Nat) (0:Nat),.imm (.int .i64 (↑i:Int)),.ptr 4 0,AV.ifc (126:Nat) (.ptr 3 0),.ptr 5 0,.imm (.int .i64 (↑i:Int)),.imm (.int .i64 (IntKind.wrap .i64 ((↑i:Int) + 6))),.imm (.bytes b),.imm (.int .i64 (b.length:Int)),.imm (.bool (decide (IntKind.wrap .i64 ((↑i:Int) + 6)≤(b.length:Int)))),.dead,.dead,.tup [.agg [.imm (.int IntKind.i32 (0:Int)),.imm (.bool false),.imm (.int .u8 0)],AV.ifc (126:Nat) (.ptr 3 0)],.imm (.bytes b),.imm (.int .i64 (↑i:Int)),.imm (.int .i64 (↑i:Int)),.imm (.int .i64 (IntKind.wrap .i64 ((↑i:Int) + 6))),.imm (.bytes (List.take ((IntKind.wrap .i64 ((↑i:Int) + 6)).toNat - (↑i:Int).toNat) (List.drop (↑i:Int).toNat b))),.tup [.agg [.imm (.int IntKind.i32 (0:Int)),.imm (.bool false),.imm (.int .u8 0)],AV.ifc (126:Nat) (.ptr 3 0)],.agg [.imm (.int IntKind.i32 (0:Int)),.imm (.bool false),.imm (.int .u8 0)],AV.ifc (126:Nat) (.ptr 3 0),AV.ifc (126:Nat) (.ptr 3 0),AV.ifc (99:Nat) (.ptr 5 0),.imm (.bool true),.dead,.dead,.dead,.dead,.dead] [(0,Ob.mk true 0 (AObj.row (IV.sl (3:Nat) (List.map cellsT L)))),(1,Ob.mk true 0 (AObj.cells [.imm (.int IntKind.i32 (0:Int)),.imm (.bool
 false),.imm (.int .u8 0)])),(2,Ob.mk true 1 (AObj.row (IV.sl (1:Nat) [[IV.iface (97:Nat) (IV.int .u8 (↑(UInt8.toNat (List.getD (List.take ((IntKind.wrap .i64 ((↑i:Int) + 6)).toNat - (↑i:Int).toNat) (List.drop (↑i:Int).toNat b)) (4:Int).toNat (0:UInt8))):Int))]]))),(3,Ob.mk true 0 (AObj.cells [AV.row (2:Nat) (1:Nat)])),(4,Ob.mk true 0 (AObj.cells [.imm (.int IntKind.i32 (0:Int)),.imm (.bool false),.imm (.int .u8 0)])),(5,Ob.mk true 0 (AObj.cells [.imm (.int .u8 (↑(UInt8.toNat (List.getD (List.take ((IntKind.wrap .i64 ((↑i:Int) + 6)).toNat - (↑i:Int).toNat) (List.drop (↑i:Int).toNat b)) (4:Int).toNat (0:UInt8))):Int))]))] (6:Nat) [])) ((0:Int)≤4∧(4:Int) < (↑(List.take ((IntKind.wrap .i64 ((↑i:Int) + 6)).toNat - (↑i:Int).toNat) (List.drop (↑i:Int).toNat b)).length:Int)∧(0:Int)≤5∧(5:Int) < (↑(List.take ((IntKind.wrap .i64 ((↑i:Int) + 6)).toNat - (↑i:Int).toNat) (List.drop (↑i:Int).toNat b)).length:Int)∧((List.map cellsT L).length + List.length [[IV.int IntKind.i32 (IntKind.wrap IntKind.i32 (sgnN (4:Int).toNat (uintP (List.take ((IntKind.wrap .i64 ((↑i:Int) + 6)).toNat - (↑i:Int).toNat) (List.drop
 (↑i:Int).toNat b)) (0:Int).toNat (4:Int).toNat))),IV.bool ((↑(UInt8.toNat (List.getD (List.take ((IntKind.wrap .i64 ((↑i:Int) + 6)).toNat - (↑i:Int).toNat) (List.drop (↑i:Int).toNat b)) (4:Int).toNat (0:UInt8))):Int) == 1),IV.int .u8 (↑(UInt8.toNat (List.getD (List.take ((IntKind.wrap .i64 ((↑i:Int) + 6)).toNat - (↑i:Int).toNat) (List.drop (↑i:Int).toNat b)) (5:Int).toNat (0:UInt8))):Int)]]) * 8≤140737488355328∧(List.map cellsT L).length + List.length [[IV.int IntKind.i32 (IntKind.wrap IntKind.i32 (sgnN (4:Int).toNat (uintP (List.take ((IntKind.wrap .i64 ((↑i:Int) + 6)).toNat - (↑i:Int).toNat) (List.drop (↑i:Int).toNat b)) (0:Int).toNat (4:Int).toNat))),IV.bool ((↑(UInt8.toNat (List.getD (List.take ((IntKind.wrap .i64 ((↑i:Int) + 6)).toNat - (↑i:Int).toNat) (List.drop (↑i:Int).toNat b)) (4:Int).toNat (0:UInt8))):Int) == 1),IV.int .u8 (↑(UInt8.toNat (List.getD (List.take ((IntKind.wrap .i64 ((↑i:Int) + 6)).toNat - (↑i:Int).toNat) (List.drop (↑i:Int).toNat b)) (5:Int).toNat (0:UInt8))):Int)]]≤140737488355328∧k AX.normal (St.mk [.imm (.bytes b),.dead,.dead,.dead,AV.row (0:Nat) (1:Nat),.imm (.int .i64
 (IntKind.wrap .i64 ((↑i:Int) + 6))),.ptr 2 0,.imm (.val Value.nilIface),.ptr 3 0,.imm (.int .i64 (↑i:Int)),.imm (.int .i64 (IntKind.wrap .i64 ((↑i:Int) + 6))),.imm (.bytes b),.imm (.int .i64 (b.length:Int)),.imm (.bool (decide (IntKind.wrap .i64 ((↑i:Int) + 6)≤(b.length:Int)))),.imm (.int .i64 (↑i:Int)),.imm (.int .i64 (IntKind.wrap .i64 ((↑i:Int) + 6))),.tup [.agg [.imm (.int IntKind.i32 (IntKind.wrap IntKind.i32 (sgnN (4:Int).toNat (uintP (List.take ((IntKind.wrap .i64 ((↑i:Int) + 6)).toNat - (↑i:Int).toNat) (List.drop (↑i:Int).toNat b)) (0:Int).toNat (4:Int).toNat)))),.imm (.bool ((↑(UInt8.toNat (List.getD (List.take ((IntKind.wrap .i64 ((↑i:Int) + 6)).toNat - (↑i:Int).toNat) (List.drop (↑i:Int).toNat b)) (4:Int).toNat (0:UInt8))):Int) == 1)),.imm (.int .u8 (↑(UInt8.toNat (List.getD (List.take ((IntKind.wrap .i64 ((↑i:Int) + 6)).toNat - (↑i:Int).toNat) (List.drop (↑i:Int).toNat b)) (5:Int).toNat (0:UInt8))):Int))],.imm (.val Value.nilIface)],.imm (.bytes b),.imm (.int .i64 (↑i:Int)),.imm (.int .i64 (↑i:Int)),.imm (.int .i64 (IntKind.wrap .i64 ((↑i:Int) + 6))),.imm (.bytes (List.take ((IntKind.wrap .i64
 ((↑i:Int) + 6)).toNat - (↑i:Int).toNat) (List.drop (↑i:Int).toNat b))),.tup [.agg [.imm (.int IntKind.i32 (IntKind.wrap IntKind.i32 (sgnN (4:Int).toNat (uintP (List.take ((IntKind.wrap .i64 ((↑i:Int) + 6)).toNat - (↑i:Int).toNat) (List.drop (↑i:Int).toNat b)) (0:Int).toNat (4:Int).toNat)))),.imm (.bool ((↑(UInt8.toNat (List.getD (List.take ((IntKind.wrap .i64 ((↑i:Int) + 6)).toNat - (↑i:Int).toNat) (List.drop (↑i:Int).toNat b)) (4:Int).toNat (0:UInt8))):Int) == 1)),.imm (.int .u8 (↑(UInt8.toNat (List.getD (List.take ((IntKind.wrap .i64 ((↑i:Int) + 6)).toNat - (↑i:Int).toNat) (List.drop (↑i:Int).toNat b)) (5:Int).toNat (0:UInt8))):Int))],.imm (.val Value.nilIface)],.agg [.imm (.int IntKind.i32 (IntKind.wrap IntKind.i32 (sgnN (4:Int).toNat (uintP (List.take ((IntKind.wrap .i64 ((↑i:Int) + 6)).toNat - (↑i:Int).toNat) (List.drop (↑i:Int).toNat b)) (0:Int).toNat (4:Int).toNat)))),.imm (.bool ((↑(UInt8.toNat (List.getD (List.take ((IntKind.wrap .i64 ((↑i:Int) + 6)).toNat - (↑i:Int).toNat) (List.drop (↑i:Int).toNat b)) (4:Int).toNat (0:UInt8))):Int) == 1)),.imm (.int .u8 (↑(UInt8.toNat (List.getD (List.take
 ((IntKind.wrap .i64 ((↑i:Int) + 6)).toNat - (↑i:Int).toNat) (List.drop (↑i:Int).toNat b)) (5:Int).toNat (0:UInt8))):Int))],.imm (.val Value.nilIface),.imm (.val Value.nilIface),AV.ifc (99:Nat) (.ptr 3 0),.imm (.bool false),AV.row (0:Nat) (0:Nat),.agg [.imm (.int IntKind.i32 (IntKind.wrap IntKind.i32 (sgnN (4:Int).toNat (uintP (List.take ((IntKind.wrap .i64 ((↑i:Int) + 6)).toNat - (↑i:Int).toNat) (List.drop (↑i:Int).toNat b)) (0:Int).toNat (4:Int).toNat)))),.imm (.bool ((↑(UInt8.toNat (List.getD (List.take ((IntKind.wrap .i64 ((↑i:Int) + 6)).toNat - (↑i:Int).toNat) (List.drop (↑i:Int).toNat b)) (4:Int).toNat (0:UInt8))):Int) == 1)),.imm (.int .u8 (↑(UInt8.toNat (List.getD (List.take ((IntKind.wrap .i64 ((↑i:Int) + 6)).toNat - (↑i:Int).toNat) (List.drop (↑i:Int).toNat b)) (5:Int).toNat (0:UInt8))):Int))],.full (IV.sl (3:Nat) [[IV.int IntKind.i32 (IntKind.wrap IntKind.i32 (sgnN (4:Int).toNat (uintP (List.take ((IntKind.wrap .i64 ((↑i:Int) + 6)).toNat - (↑i:Int).toNat) (List.drop (↑i:Int).toNat b)) (0:Int).toNat (4:Int).toNat))),IV.bool ((↑(UInt8.toNat (List.getD (List.take ((IntKind.wrap .i64 ((↑i:Int) +
 6)).toNat - (↑i:Int).toNat) (List.drop (↑i:Int).toNat b)) (4:Int).toNat (0:UInt8))):Int) == 1),IV.int .u8 (↑(UInt8.toNat (List.getD (List.take ((IntKind.wrap .i64 ((↑i:Int) + 6)).toNat - (↑i:Int).toNat) (List.drop (↑i:Int).toNat b)) (5:Int).toNat (0:UInt8))):Int)]]),AV.row (0:Nat) (1:Nat),.dead] [(0,Ob.mk true 1 (AObj.row (IV.sl (3:Nat) (List.map cellsT L ++ [[IV.int IntKind.i32 (IntKind.wrap IntKind.i32 (sgnN (4:Int).toNat (uintP (List.take ((IntKind.wrap .i64 ((↑i:Int) + 6)).toNat - (↑i:Int).toNat) (List.drop (↑i:Int).toNat b)) (0:Int).toNat (4:Int).toNat))),IV.bool ((↑(UInt8.toNat (List.getD (List.take ((IntKind.wrap .i64 ((↑i:Int) + 6)).toNat - (↑i:Int).toNat) (List.drop (↑i:Int).toNat b)) (4:Int).toNat (0:UInt8))):Int) == 1),IV.int .u8 (↑(UInt8.toNat (List.getD (List.take ((IntKind.wrap .i64 ((↑i:Int) + 6)).toNat - (↑i:Int).toNat) (List.drop (↑i:Int).toNat b)) (5:Int).toNat (0:UInt8))):Int)]])))),(1,Ob.mk true 0 (AObj.cells [.imm (.int IntKind.i32 (IntKind.wrap IntKind.i32 (sgnN (4:Int).toNat (uintP (List.take ((IntKind.wrap .i64 ((↑i:Int) + 6)).toNat - (↑i:Int).toNat) (List.drop (↑i:Int).toNat b))
 (0:Int).toNat (4:Int).toNat)))),.imm (.bool ((↑(UInt8.toNat (List.getD (List.take ((IntKind.wrap .i64 ((↑i:Int) + 6)).toNat - (↑i:Int).toNat) (List.drop (↑i:Int).toNat b)) (4:Int).toNat (0:UInt8))):Int) == 1)),.imm (.int .u8 (↑(UInt8.toNat (List.getD (List.take ((IntKind.wrap .i64 ((↑i:Int) + 6)).toNat - (↑i:Int).toNat) (List.drop (↑i:Int).toNat b)) (5:Int).toNat (0:UInt8))):Int))])),(2,Ob.mk true 0 (AObj.cells [.imm (.int IntKind.i32 (IntKind.wrap IntKind.i32 (sgnN (4:Int).toNat (uintP (List.take ((IntKind.wrap .i64 ((↑i:Int) + 6)).toNat - (↑i:Int).toNat) (List.drop (↑i:Int).toNat b)) (0:Int).toNat (4:Int).toNat)))),.imm (.bool ((↑(UInt8.toNat (List.getD (List.take ((IntKind.wrap .i64 ((↑i:Int) + 6)).toNat - (↑i:Int).toNat) (List.drop (↑i:Int).toNat b)) (4:Int).toNat (0:UInt8))):Int) == 1)),.imm (.int .u8 (↑(UInt8.toNat (List.getD (List.take ((IntKind.wrap .i64 ((↑i:Int) + 6)).toNat - (↑i:Int).toNat) (List.drop (↑i:Int).toNat b)) (5:Int).toNat (0:UInt8))):Int))])),(3,Ob.mk true 0 (AObj.cells [.imm (.int .u8 0)]))] (4:Nat) []))) (k (AX.exit (0:Nat)) (St.mk [.imm (.bytes b),.dead,.dead,.dead,AV.row (0 :
 Nat) (0:Nat),.imm (.int .i64 (↑i:Int)),.dead,.dead,.dead,.imm (.int .i64 (↑i:Int)),.imm (.int .i64 (IntKind.wrap .i64 ((↑i:Int) + 6))),.imm (.bytes b),.imm (.int .i64 (b.length:Int)),.imm (.bool (decide (IntKind.wrap .i64 ((↑i:Int) + 6)≤(b.length:Int)))),.dead,.dead,.dead,.dead,.dead,.dead,.dead,.dead,.dead,.dead,.dead,.dead,.dead,.dead,.dead,.dead,.dead,.dead,.dead] [(0,Ob.mk true 0 (AObj.row (IV.sl (3:Nat) (List.map cellsT L))))] (1:Nat) []))):=by kernel_rfl
end D6
set_option maxRecDepth 100000
namespace D6
open Go Go.AE Go.Proofs
attribute [local irreducible] loopK evCode evSpec loopB norm
theorem wrap64 {n:Int} (h1:-9223372036854775808≤n) (h2:n≤9223372036854775807):IntKind.wrap .i64 n = n:=by
 have:=IntKind.wrap_i64 n
 rw [show IntKind.wrap .i64 n = IntKind.i64.wrap n from rfl,this]; omega
theorem wrapU {n:Int} (h1:0≤n) (h2:n < 18446744073709551616):IntKind.wrap .u64 n = n:=by
 simp [IntKind.wrap,IntKind.min,IntKind.max,IntKind.signed,IntKind.bits]
 omega
theorem wrapU8 {n:Int} (h1:0≤n) (h2:n < 256):IntKind.wrap .u8 n = n:=by
 simp [IntKind.wrap,IntKind.min,IntKind.max,IntKind.signed,IntKind.bits]
 omega
theorem wrapUm (n:Int):IntKind.wrap .u64 n = n % 18446744073709551616:=by
 simp [IntKind.wrap,IntKind.min,IntKind.max,IntKind.signed,IntKind.bits]
theorem wrapU8m (n:Int):IntKind.wrap .u8 n = n % 256:=by
 simp [IntKind.wrap,IntKind.min,IntKind.max,IntKind.signed,IntKind.bits]
theorem or8 {m y:Nat} (hm:m * 256 + y < 18446744073709551616) (hy:y < 256):bitsV .or .u64 (shlV .u64 (m:Int) 8) (y:Int) = ((m * 256 + y:Nat):Int):=by
 have e1:shlV .u64 (m:Int) 8 = ((m * 256:Nat):Int):=by
  unfold shlV
  have:min (Int.toNat 8) IntKind.u64.bits = 8:=rfl
  rw [this,show ((m:Int) * 2 ^ 8) = ((m * 256:Nat):Int) by omega,wrapU (by omega) (by omega)]
 rw [e1]
 unfold bitsV
 simp only
 have h1:(BitVec.ofInt IntKind.u64.bits ((m * 256:Nat):Int) ||| BitVec.ofInt IntKind.u64.bits (y:Int)).toNat = m * 256 + y:=by
  rw [BitVec.toNat_or,BitVec.ofInt_natCast,BitVec.ofInt_natCast,BitVec.toNat_ofNat,BitVec.toNat_ofNat]
  have hb:2 ^ IntKind.u64.bits = 18446744073709551616:=rfl
  rw [hb,Nat.mod_eq_of_lt (by omega),Nat.mod_eq_of_lt (by omega)]
  have:=Nat.shiftLeft_add_eq_or_of_lt (i:=8) (b:=y) (by omega) m
  rw [Nat.shiftLeft_eq] at this
  exact this.symm
 rw [h1,wrapU (by omega) (by omega)]
theorem beN_app (l:List UInt8) (b:UInt8):beN (l ++ [b]) = beN l * 256 + b.toNat:=by simp [beN]
theorem beN_fold:∀ (l:List UInt8) (v:Nat),l.foldl (fun v b=>v * 256 + b.toNat) v + 1≤(v + 1) * 256 ^ l.length
 | [],v=>by simp
 | b :: l,v=>by
  have h1:=beN_fold l (v * 256 + b.toNat)
  have h2:=b.toNat_lt
  rw [List.foldl_cons,List.length_cons,Nat.pow_succ]
  have h3:(v * 256 + b.toNat + 1) * 256 ^ l.length≤((v + 1) * 256) * 256 ^ l.length:=Nat.mul_le_mul_right _ (by omega)
  have h4:((v + 1) * 256) * 256 ^ l.length = (v + 1) * (256 ^ l.length * 256):=by rw [Nat.mul_assoc,Nat.mul_comm 256]
  omega
theorem beN_lt (l:List UInt8):beN l < 256 ^ l.length:=by
 have:=beN_fold l 0
 unfold beN
 omega
theorem beN_lt8 {l:List UInt8} (h:l.length≤8):beN l < 18446744073709551616:=by
 have h1:=beN_lt l
 have h2:256 ^ l.length≤256 ^ 8:=Nat.pow_le_pow_right (by decide) h
 have:(256:Nat) ^ 8 = 18446744073709551616:=rfl
 omega
theorem take_succ' {b:List UInt8} {i:Nat} (h:i < b.length):b.take (i + 1) = b.take i ++ [b.getD i 0]:=by
 rw [List.take_add_one,List.getElem?_eq_getElem h,List.getD_eq_getElem?_getD,List.getElem?_eq_getElem h]
 rfl
theorem getD_drop' (b:List UInt8) (o i:Nat):(b.drop o).getD i 0 = b.getD (o + i) 0:=by
 simp only [List.getD_eq_getElem?_getD,List.getElem?_drop]
theorem mk {E:FuncId→List AV→Option (List Prop×List AV)} (hE:EOK Tryd.prog E G16) {f:FuncId} {fn:Func} {args res:List AV} {pres:List Prop} (hf:Tryd.prog.funcs[f]? = some fn) (hn:(fn.name == "runtime.NumGoroutine") = false) (hb:fn.body.isNone = false)
  (h:(∀ p,p ∈ pres→p)→∀ K:List AV→Prop,K res→evSpec (cx E) fn args K):SpecOK Tryd.prog G16 f args pres res :=
 spec_ok (C:=cx E) hE noCall_ok hf hn hb (fun hp=>h hp _ rfl)
theorem ok0:EOK Tryd.prog noE G16:=noE_ok
theorem f31_ev (b:List UInt8) (off n:Int) (hb:(b.length:Int)≤big) (h0:0≤off) (h1:off≤big) (n0:0≤n) (n8:n≤8) (K:List AV→Prop) (hK:K [.imm (.int .u64 (uintP b off.toNat n.toNat:Int)),bo (okR b off.toNat n.toNat)]) :
  evSpec C0 Tryd.f81 [.imm (.bytes b),i64 off,i64 n] K:=by
 have hbig:big = 4611686018427387904:=rfl
 rw [f31_in]
 refine brn_intro (fun h=>?_) (fun h=>?_)
 ·have hr:okR b off.toNat n.toNat = false:=by
   rw [wrap64 (by omega) (by omega)] at h
   simp only [Bool.or_eq_true,decide_eq_true_eq] at h
   unfold okR
   simp only [decide_eq_false_iff_not]
   omega
  unfold uintP at hK
  rw [hr] at hK
  exact hK
 ·rw [wrap64 (by omega) (by omega)] at h
  simp only [Bool.or_eq_false_iff,decide_eq_false_iff_not] at h
  have hr:okR b off.toNat n.toNat = true:=by
   unfold okR
   simp only [decide_eq_true_eq]
   omega
  unfold uintP at hK
  rw [hr,if_pos rfl] at hK
  unfold LoopI
  refine loop_rule (fun i:Nat=>h31 b off n (beN ((b.drop off.toNat).take i):Int) i) (fun i=>(i:Int)≤n) (fun i=>n.toNat - i) (fun i hP K' hnorm hexit=>?_) rfl 0 p31 _ n0 (by kernel_rfl)
  rw [f31_lp]
  refine brn_intro (fun hi=>?_) (fun hi=>?_)
  ·simp only [decide_eq_true_eq] at hi
   have e1:IntKind.wrap .i64 (off + (i:Int)) = ((off.toNat + i:Nat):Int):=by rw [wrap64 (by omega) (by omega)]; omega
   have e2:IntKind.wrap .i64 ((i:Int) + 1) = ((i + 1:Nat):Int):=by rw [wrap64 (by omega) (by omega)]; rfl
   have hl:((b.drop off.toNat).take (i + 1)) = (b.drop off.toNat).take i ++ [b.getD (off.toNat + i) 0]:=by
    rw [take_succ' (by rw [List.length_drop]; omega),getD_drop']
   have hlt:beN ((b.drop off.toNat).take (i + 1)) < 18446744073709551616:=beN_lt8 (by rw [List.length_take]; omega)
   have hby:=(b.getD (off.toNat + i) 0).toNat_lt
   rw [hl,beN_app] at hlt
   have e3:IntKind.wrap .u64 (((b.getD (off.toNat + i) 0).toNat:Nat):Int) = ((b.getD (off.toNat + i) 0).toNat:Int):=wrapU (by omega) (by omega)
   have e4:=or8 (m:=beN ((b.drop off.toNat).take i)) (y:=(b.getD (off.toNat + i) 0).toNat) hlt (by omega)
   rw [← beN_app,← hl] at e4
   simp only [e1,e2,Int.toNat_natCast,e3,e4]
   refine ⟨by decide,by omega,by omega,hnorm (i + 1) p31 _ (by omega) (by omega) (by kernel_rfl)⟩
  ·simp only [decide_eq_false_iff_not] at hi
   have hin:i = n.toNat:=by omega
   subst hin
   exact hexit _ _ (by simp) (Eq.mp (by kernel_rfl) hK)
theorem f29_ev (b:List UInt8) (off n:Int) (hb:(b.length:Int)≤big) (h0:0≤off) (h1:off≤big) (n0:0≤n) (n8:n≤8) (K:List AV→Prop) (hK:K [.imm (.int .u64 (uintP b off.toNat n.toNat:Int)),bo (okR b off.toNat n.toNat)]) :
  evSpec C0 Tryd.f82 [.imm (.bytes b),i64 off,i64 n] K:=by
 have hbig:big = 4611686018427387904:=rfl
 rw [f29_in]
 refine brn_intro (fun h=>?_) (fun h=>?_)
 ·have hr:okR b off.toNat n.toNat = false:=by
   rw [wrap64 (by omega) (by omega)] at h
   simp only [Bool.or_eq_true,decide_eq_true_eq] at h
   unfold okR
   simp only [decide_eq_false_iff_not]
   omega
  unfold uintP at hK
  rw [hr] at hK
  exact hK
 ·rw [wrap64 (by omega) (by omega)] at h
  simp only [Bool.or_eq_false_iff,decide_eq_false_iff_not] at h
  have hr:okR b off.toNat n.toNat = true:=by
   unfold okR
   simp only [decide_eq_true_eq]
   omega
  unfold uintP at hK
  rw [hr,if_pos rfl] at hK
  unfold LoopI
  refine loop_rule (fun i:Nat=>h29 b off n (beN ((b.drop off.toNat).take i):Int) i) (fun i=>(i:Int)≤n) (fun i=>n.toNat - i) (fun i hP K' hnorm hexit=>?_) rfl 0 p29 _ n0 (by kernel_rfl)
  rw [f29_lp]
  refine brn_intro (fun hi=>?_) (fun hi=>?_)
  ·simp only [decide_eq_true_eq] at hi
   have e1:IntKind.wrap .i64 (off + (i:Int)) = ((off.toNat + i:Nat):Int):=by rw [wrap64 (by omega) (by omega)]; omega
   have e2:IntKind.wrap .i64 ((i:Int) + 1) = ((i + 1:Nat):Int):=by rw [wrap64 (by omega) (by omega)]; rfl
   have hl:((b.drop off.toNat).take (i + 1)) = (b.drop off.toNat).take i ++ [b.getD (off.toNat + i) 0]:=by
    rw [take_succ' (by rw [List.length_drop]; omega),getD_drop']
   have hlt:beN ((b.drop off.toNat).take (i + 1)) < 18446744073709551616:=beN_lt8 (by rw [List.length_take]; omega)
   have hby:=(b.getD (off.toNat + i) 0).toNat_lt
   rw [hl,beN_app] at hlt
   have e3:IntKind.wrap .u64 (((b.getD (off.toNat + i) 0).toNat:Nat):Int) = ((b.getD (off.toNat + i) 0).toNat:Int):=wrapU (by omega) (by omega)
   have e5:IntKind.wrap .u64 ((beN ((b.drop off.toNat).take i):Int) * 256) = (beN ((b.drop off.toNat).take i):Int) * 256:=wrapU (by omega) (by omega)
   have e4:IntKind.wrap .u64 ((beN ((b.drop off.toNat).take i):Int) * 256 + ((b.getD (off.toNat + i) 0).toNat:Int)) = (beN ((b.drop off.toNat).take (i + 1)):Int):=by
    rw [hl,beN_app,wrapU (by omega) (by omega)]; omega
   simp only [e1,e2,Int.toNat_natCast,e3,e5,e4]
   refine ⟨by omega,by omega,hnorm (i + 1) p29 _ (by omega) (by omega) (by kernel_rfl)⟩
  ·simp only [decide_eq_false_iff_not] at hi
   have hin:i = n.toNat:=by omega
   subst hin
   exact hexit _ _ (by simp) (Eq.mp (by kernel_rfl) hK)
theorem f30_ev (n:Int) (n1:1≤n) (n8:n≤8) (K:List AV→Prop) (hK:K [.imm (.int .u64 (2 ^ (8 * n.toNat - 1)))]):evSpec C0 Tryd.f70 [i64 n] K:=by
 rw [f30_in]
 unfold LoopI
 refine loop_rule (fun i:Nat=>h30 n (2 ^ (8 * i - 1)) i) (fun i=>1≤i∧(i:Int)≤n) (fun i=>n.toNat - i) (fun i hP K' hnorm hexit=>?_) rfl 1 p30 _ ⟨Nat.le_refl _,n1⟩ (by kernel_rfl)
 rw [f30_lp]
 obtain ⟨hi1,hin⟩:=hP
 refine brn_intro (fun hi=>?_) (fun hi=>?_)
 ·simp only [decide_eq_true_eq] at hi
  have e2:IntKind.wrap .i64 ((i:Int) + 1) = ((i + 1:Nat):Int):=by rw [wrap64 (by omega) (by omega)]; rfl
  have ep:(2:Int) ^ (8 * i - 1) * 256 = 2 ^ (8 * (i + 1) - 1):=by
   rw [show 8 * (i + 1) - 1 = (8 * i - 1) + 8 by omega,Int.pow_add]; rfl
  have hle:(2:Int) ^ (8 * (i + 1) - 1)≤2 ^ 63:=by
   have:(2:Nat) ^ (8 * (i + 1) - 1)≤2 ^ 63:=Nat.pow_le_pow_right (by decide) (by omega)
   exact_mod_cast this
  have h0:(0:Int)≤2 ^ (8 * (i + 1) - 1):=Int.le_of_lt (Int.pow_pos (by decide))
  have e3:IntKind.wrap .u64 ((2:Int) ^ (8 * i - 1) * 256) = 2 ^ (8 * (i + 1) - 1):=by
   rw [ep,wrapU h0 (by have:(2:Int) ^ 63 = 9223372036854775808:=rfl; omega)]
  simp only [e2,e3]
  exact hnorm (i + 1) p30 _ ⟨by omega,by omega⟩ (by omega) (by kernel_rfl)
 ·simp only [decide_eq_false_iff_not] at hi
  have hin:i = n.toNat:=by omega
  subst hin
  exact hexit _ _ (by simp) (Eq.mp (by kernel_rfl) hK)
end D6
set_option maxRecDepth 100000
namespace D6
open Go Go.AE Go.Proofs
attribute [local irreducible] loopK evCode evSpec loopB norm
theorem f22_out (b:List UInt8) (n:Int) (v:Int) (own:Bool) (l:List UInt8) (i:Nat) (K:List AV→Prop):loopK C0 (bodyOf Tryd.f73) (0:Nat) (finK C0 Tryd.f73 K) (AX.exit (0:Nat)) (St.mk [.imm (.bytes b),.imm (.int .i64 n),.imm (.int IntKind.u64 v),.dead,.dead,.dead,.dead,AV.row (0:Nat) (0:Nat),.imm (.int .i64 (↑i:Int)),.dead,.imm (.int .i64 (↑i:Int)),.imm (.int .i64 n),.imm (.bool (decide ((↑i:Int) < n))),.dead,.dead,.dead,.dead,.dead,.dead,.dead,.dead,.dead,.dead,.dead,.dead,.dead,.dead,.dead] [((0:Nat),Ob.mk own (0:Nat) (AObj.row (IV.bytes l)))] (1:Nat) []) = (((List.map u8 []).length + b.length) * 1≤140737488355328∧(List.map u8 []).length + b.length≤140737488355328∧((List.map u8 [] ++ b).length + l.length) * 1≤140737488355328∧(List.map u8 [] ++ b).length + l.length≤140737488355328∧K [AV.new (IV.bytes (List.map u8 [] ++ b ++ l))]):=by kernel_rfl
theorem f9_out (b:List UInt8) (i:Nat) (K:List AV→Prop):loopK C2 (bodyOf Tryd.f39) (0:Nat) (finK C2 Tryd.f39 K) (AX.exit (0:Nat)) (St.mk (let y:=let y:=let y:=let y:=[.dead,.dead,.dead,.dead]; AV.dead :: AV.dead :: AV.dead :: AV.dead :: y; AV.dead :: AV.dead :: AV.dead :: AV.dead :: AV.dead :: AV.dead :: AV.dead :: y; let y:=AV.dead :: AV.dead :: AV.dead :: AV.dead :: AV.dead :: AV.dead :: AV.dead :: y; AV.dead :: AV.dead :: AV.dead :: AV.dead :: AV.dead :: AV.dead :: AV.dead :: y; let y:=let y:=AV.dead :: AV.dead :: AV.dead :: AV.dead :: AV.dead :: AV.dead :: AV.dead :: y; AV.dead :: AV.dead :: AV.dead :: AV.dead :: AV.dead :: AV.dead :: AV.dead :: y; let y:=AV.dead :: AV.dead :: AV.imm (.int .i64 (↑i:Int)) :: AV.imm (.bytes b) :: AV.imm (.int .i64 (b.length:Int)) :: AV.imm (.int .i64 (IntKind.wrap .i64 (Int.tdiv (b.length:Int) (6:Int)))) :: AV.imm (.bool (decide ((↑i:Int) < IntKind.wrap .i64 (Int.tdiv (b.length:Int) (6:Int))))) :: y; AV.imm (.bytes b) :: AV.dead :: AV.dead :: AV.dead :: AV.imm (.int .i64 (↑i:Int)) :: AV.dead :: AV.dead :: y) [] (0:Nat) []) = (LoopI C2 (bodyOf Tryd.f39) (1:Nat) (St.mk [.imm (.bytes b),.dead,.dead,.dead,.imm (.int .i64 (↑i:Int)),.full (IV.sl (3:Nat) []),.imm (.int .i64 0),.dead,.dead,.imm (.int .i64 (↑i:Int)),.imm (.bytes b),.imm (.int .i64 (b.length:Int)),.imm (.int .i64 (IntKind.wrap .i64 (Int.tdiv (b.length:Int) (6:Int)))),.imm (.bool (decide ((↑i:Int) < IntKind.wrap .i64 (Int.tdiv (b.length:Int) (6:Int))))),.dead,.dead,.dead,.dead,.dead,.dead,.dead,.dead,.dead,.dead,.dead,.dead,.dead,.dead,.dead,.dead,.dead,.dead,.dead,.dead,.dead,.dead,.dead,.dead,.dead,.dead,.dead,.dead,.dead,.dead,.dead,.dead,.dead,.dead,.dead,.dead,.dead,.dead,.dead,.dead,.dead,.dead,.dead] [] (0:Nat) []) (finK C2 Tryd.f39 K)):=by kernel_rfl
end D6
set_option maxRecDepth 100000
namespace D6
open Go Go.AE Go.Proofs
attribute [local irreducible] loopK evCode evSpec loopB norm
def t0:Ty:=⟨0,false,0⟩
theorem getT {L:List Ty} {i:Nat} (h:i < L.length):(L.map cellsT).getD i [] = cellsT (L.getD i t0):=by
 simp only [List.getD_eq_getElem?_getD,List.getElem?_map,List.getElem?_eq_getElem h]
 rfl
theorem kT (t:Ty):kcells (cellsT t) 0 (lapp [CK.int .i32] (lapp [CK.bool] (lapp [CK.int .u8] []))) = cellsT t:=rfl
theorem oT (t:Ty):ivInt (ivNth (cellsT t) 0) = t.o:=rfl
theorem dT (t:Ty):ivBool (ivNth (cellsT t) (0 + 1)) = t.d:=rfl
theorem gT (t:Ty):ivInt (ivNth (cellsT t) (0 + 1 + 1)) = t.g:=rfl
theorem okT_elim {xs:List (List IV)} (h:okT xs):∃ L:List Ty,xs = L.map cellsT∧tys xs = L∧∀ t ∈ L,okTy t:=⟨tys xs,h.1,rfl,h.2⟩
theorem takeS {α:Type} {l:List α} {i:Nat} (d:α) (h:i < l.length):l.take (i + 1) = l.take i ++ [l.getD i d]:=by
 rw [List.take_add_one,List.getElem?_eq_getElem h,List.getD_eq_getElem?_getD,List.getElem?_eq_getElem h]
 rfl
theorem ne_of_at {α:Type} {a b:List α} {i:Nat} (d:α) (h:a.getD i d≠b.getD i d):a≠b:=fun e=>h (by rw [e])
theorem memD {α:Type} {l:List α} {i:Nat} (d:α) (h:i < l.length):l.getD i d ∈ l:=by
 rw [List.getD_eq_getElem?_getD,List.getElem?_eq_getElem h]
 exact List.getElem_mem h
theorem f11_ev (a b:List UInt8) (ha:(a.length:Int)≤big) (hb:(b.length:Int)≤big) (K:List AV→Prop) (hK:K [bo (decide (a = b))]):evSpec C0 Tryd.f20 [.imm (.bytes a),.imm (.bytes b)] K:=by
 have hbig:big = 4611686018427387904:=rfl
 have no:a≠b→K [.imm (.bool false)]:=fun h=>by rw [decide_eq_false h] at hK; exact hK
 rw [f11_in]
 refine brn_intro (fun h=>?_) (fun h=>?_)
 ·refine no (fun e=>?_)
  subst e
  simp at h
 ·have hl:a.length = b.length:=by simp at h; omega
  unfold LoopI
  refine loop_rule (fun i:Nat=>h11 a b i) (fun i=>i≤a.length∧a.take i = b.take i) (fun i=>a.length - i) (fun i hP K' hnorm hexit=>?_) rfl 0 p11 _ ⟨Nat.zero_le _,by simp⟩ (by kernel_rfl)
  obtain ⟨hi,ht⟩:=hP
  rw [f11_lp]
  refine brn_intro (fun h1=>?_) (fun h1=>?_)
  ·simp only [decide_eq_true_eq] at h1
   simp only [Int.toNat_natCast]
   refine ⟨by omega,by omega,by omega,by omega,brn_intro (fun h2=>?_) (fun h2=>?_)⟩
   ·refine hexit _ _ (by simp) (Eq.mp (by kernel_rfl) (no (ne_of_at 0 (i:=i) fun e=>?_)))
    rw [e] at h2
    simp at h2
   ·have e2:IntKind.wrap .i64 ((i:Int) + 1) = ((i + 1:Nat):Int):=by rw [wrap64 (by omega) (by omega)]; rfl
    have e3:a.getD i 0 = b.getD i 0:=by
     simp only [bne_eq_false_iff_eq] at h2
     exact UInt8.toNat_inj.1 (by omega)
    simp only [e2]
    refine hnorm (i + 1) p11 _ ⟨by omega,?_⟩ (by omega) (by kernel_rfl)
    rw [takeS 0 (by omega),takeS 0 (by omega),ht,e3]
  ·simp only [decide_eq_false_iff_not] at h1
   have hil:i = a.length:=by omega
   have e:a = b:=by
    rw [hil,List.take_length,hl,List.take_length] at ht
    exact ht
   rw [decide_eq_true e] at hK
   exact hexit _ _ (by simp) (Eq.mp (by kernel_rfl) hK)
theorem f10_ev (L M:List Ty) (ha:(L.length:Int)≤big) (hb:(M.length:Int)≤big) (K:List AV→Prop) (hK:K [bo (decide (L = M))]):evSpec C0 Tryd.f43 [.imm (slT L),.imm (slT M)] K:=by
 have hbig:big = 4611686018427387904:=rfl
 have no:L≠M→K [.imm (.bool false)]:=fun h=>by rw [decide_eq_false h] at hK; exact hK
 unfold slT
 rw [f10_in]
 simp only [List.length_map]
 refine brn_intro (fun h=>?_) (fun h=>?_)
 ·refine no (fun e=>?_)
  subst e
  simp at h
 ·have hl:L.length = M.length:=by simp at h; omega
  unfold LoopI
  refine loop_rule (fun i:Nat=>h10 (L.map cellsT) (M.map cellsT) i) (fun i=>i≤L.length∧L.take i = M.take i) (fun i=>L.length - i) (fun i hP K' hnorm hexit=>?_) rfl 0 p11 _ ⟨Nat.zero_le _,by simp⟩ (by kernel_rfl)
  obtain ⟨hi,ht⟩:=hP
  rw [f10_lp]
  simp only [List.length_map]
  refine brn_intro (fun h1=>?_) (fun h1=>?_)
  ·simp only [decide_eq_true_eq] at h1
   have hlt:i < L.length:=by omega
   simp only [Int.toNat_natCast,getT hlt,getT (hl ▸ hlt:i < M.length),kT,oT,dT,gT]
   refine ⟨by omega,by omega,True.intro,by omega,by omega,True.intro,brn_intro (fun h2=>?_) (fun h2=>?_)⟩
   ·refine hexit _ _ (by simp) (Eq.mp (by kernel_rfl) (no (ne_of_at t0 (i:=i) fun e=>?_)))
    rw [e] at h2
    simp at h2
   ·have e2:IntKind.wrap .i64 ((i:Int) + 1) = ((i + 1:Nat):Int):=by rw [wrap64 (by omega) (by omega)]; rfl
    have e3:L.getD i t0 = M.getD i t0:=by
     simp only [Bool.not_eq_false',Bool.and_eq_true,beq_iff_eq,and_true] at h2
     obtain ⟨q1,q2,q3⟩:=h2
     generalize L.getD i t0 = x at *
     generalize M.getD i t0 = y at *
     cases x; cases y
     simp only at q1 q2 q3
     rw [q1,q2,q3]
    simp only [e2]
    refine hnorm (i + 1) p11 _ ⟨by omega,?_⟩ (by omega) (by kernel_rfl)
    rw [takeS t0 (by omega),takeS t0 (by omega),ht,e3]
  ·simp only [decide_eq_false_iff_not] at h1
   have hil:i = L.length:=by omega
   have e:L = M:=by
    rw [hil,List.take_length,hl,List.take_length] at ht
    exact ht
   rw [decide_eq_true e] at hK
   exact hexit _ _ (by simp) (Eq.mp (by kernel_rfl) hK)
theorem be_len:∀ (n v:Nat),(be n v).length = n
 | 0,_=>rfl
 | n + 1,v=>by rw [be,List.length_append,be_len n]; rfl
theorem be_front:∀ (n v:Nat),be (n + 1) v = UInt8.ofNat (v / 256 ^ n % 256) :: be n v
 | 0,v=>by simp [be]
 | n + 1,v=>by
  rw [be,be_front n (v / 256),be,Nat.pow_succ,Nat.mul_comm,← Nat.div_div_eq_div_mul,List.cons_append]
theorem be_take:∀ (n v i:Nat),i < n→(be n v).take (i + 1) = (be n v).take i ++ [UInt8.ofNat (v / 256 ^ (n - 1 - i) % 256)]
 | 0,_,_,h=>by omega
 | n + 1,v,i,h=>by
  rw [be_front]
  cases i with
  | zero=>simp
  | succ i =>
   rw [List.take_succ_cons,List.take_succ_cons,be_take n v i (by omega),List.cons_append,show n + 1 - 1 - (i + 1) = n - 1 - i by omega]
theorem shr8 {v k:Nat} (hk:k≤7):shrV .u64 (v:Int) ((8 * k:Nat):Int) = ((v / 256 ^ k:Nat):Int):=by
 unfold shrV
 have e:min (Int.toNat ((8 * k:Nat):Int)) IntKind.u64.bits = 8 * k:=by
  rw [Int.toNat_natCast]
  exact Nat.min_eq_left (by have:IntKind.u64.bits = 64:=rfl; omega)
 rw [e]
 have:((2:Int) ^ (8 * k)) = ((256 ^ k:Nat):Int):=by
  rw [show (256:Nat) = 2 ^ 8 from rfl,← Nat.pow_mul]
  push_cast
  rfl
 rw [this,Int.fdiv_eq_ediv_of_nonneg _ (Int.natCast_nonneg _)]
 rfl
end D6
set_option maxRecDepth 100000
namespace D6
open Go Go.AE Go.Proofs
attribute [local irreducible] loopK evCode evSpec loopB norm
theorem f21_ev (b:List UInt8) (n v:Int) (hb:(b.length:Int)≤1000000000000) (n0:0≤n) (n8:n≤8) (v0:0≤v) (v1:v < 18446744073709551616) (K:List AV→Prop) (hK:K [.new (.bytes (b ++ be n.toNat v.toNat))]) :
  evSpec C0 Tryd.f72 [.imm (.bytes b),i64 n,.imm (.int .u64 v)] K:=by
 rw [f21_in]
 have ew:IntKind.wrap .i64 ((b.length:Int) + n) = (b.length:Int) + n:=wrap64 (by omega) (by omega)
 rw [ew]
 refine ⟨by omega,by omega,by omega,by omega,by simp; omega,by simp; omega,?_⟩
 unfold LoopI
 refine loop_rule (fun s:Nat×List UInt8=>h21 n v s.2 s.1) (fun s=>(s.1:Int)≤n∧s.2 = b ++ (be n.toNat v.toNat).take s.1) (fun s=>n.toNat - s.1) (fun s hP K' hnorm hexit=>?_) rfl (0,b) p21 _ ⟨n0,by simp⟩ (by kernel_rfl)
 obtain ⟨i,l⟩:=s
 obtain ⟨hi,hl⟩:=hP
 simp only at hi hl
 rw [f21_lp]
 have hlen:l.length≤1000000000010:=by rw [hl,List.length_append,List.length_take,be_len]; omega
 refine brn_intro (fun h1=>?_) (fun h1=>?_)
 ·simp only [decide_eq_true_eq] at h1
  have e1:IntKind.wrap .u64 (IntKind.wrap .i64 ((8:Int) * IntKind.wrap .i64 (IntKind.wrap .i64 (n - 1) - (i:Int)))) = ((8 * (n.toNat - 1 - i):Nat):Int):=by
   rw [wrap64 (n:=n - 1) (by omega) (by omega),wrap64 (n:=n - 1 - (i:Int)) (by omega) (by omega),wrap64 (by omega) (by omega),wrapU (by omega) (by omega)]; omega
  have e2:IntKind.wrap .i64 ((i:Int) + 1) = ((i + 1:Nat):Int):=by rw [wrap64 (by omega) (by omega)]; rfl
  have hv:v = ((v.toNat:Nat):Int):=by omega
  have e3:IntKind.wrap .u8 (shrV .u64 v ((8 * (n.toNat - 1 - i):Nat):Int)) = ((v.toNat / 256 ^ (n.toNat - 1 - i) % 256:Nat):Int):=by
   rw [hv,shr8 (by omega),wrapU8m]; rfl
  simp only [e1,e2,e3,List.map_cons,List.map_nil,List.length_cons,List.length_nil]
  refine ⟨by omega,by omega,by omega,hnorm (i + 1,l ++ [u8 ((v.toNat / 256 ^ (n.toNat - 1 - i) % 256:Nat):Int)]) p21 _ ⟨by simp only; omega,?_⟩ (by simp only; omega) (by kernel_rfl)⟩
  simp only
  rw [hl,be_take _ _ _ (by omega),List.append_assoc]
  rfl
 ·simp only [decide_eq_false_iff_not] at h1
  have hin:i = n.toNat:=by omega
  rw [hin,List.take_of_length_le (by rw [be_len]; exact Nat.le_refl _)] at hl
  rw [← hl] at hK
  exact hexit _ _ (by simp) (Eq.mp (by kernel_rfl) hK)
theorem tmodN (n:Nat):Int.tmod (n:Int) 256 = ((n % 256:Nat):Int):=by simp [Int.tmod]
theorem tdivN (n:Nat):Int.tdiv (n:Int) 256 = ((n / 256:Nat):Int):=by simp [Int.tdiv]
theorem f22_ev (b:List UInt8) (n v:Int) (hb:(b.length:Int)≤1000000000000) (n0:0≤n) (n8:n≤8) (v0:0≤v) (v1:v < 18446744073709551616) (K:List AV→Prop) (hK:K [.new (.bytes (b ++ be n.toNat v.toNat))]) :
  evSpec C0 Tryd.f73 [.imm (.bytes b),i64 n,.imm (.int .u64 v)] K:=by
 rw [f22_in]
 unfold LoopI
 refine loop_rule (fun s:Nat×Int×Bool×List UInt8=>h22 b n s.2.1 s.2.2.1 s.2.2.2 s.1) (fun s=>(s.1:Int)≤n∧s.2.1 = ((v.toNat / 256 ^ s.1:Nat):Int)∧s.2.2.2 = be s.1 v.toNat) (fun s=>n.toNat - s.1) (fun s hP K' hnorm hexit=>?_) rfl (0,v,true,[]) p22i _ ⟨n0,by simp; omega,rfl⟩ (by kernel_rfl)
 obtain ⟨i,v',own,l⟩:=s
 obtain ⟨hi,hv,hl⟩:=hP
 simp only at hi hl hv
 have hlen:l.length≤8:=by rw [hl,be_len]; omega
 rw [f22_lp]
 refine brn_intro (fun h1=>?_) (fun h1=>?_)
 ·simp only [decide_eq_true_eq] at h1
  have e2:IntKind.wrap .i64 ((i:Int) + 1) = ((i + 1:Nat):Int):=by rw [wrap64 (by omega) (by omega)]; rfl
  have e3:IntKind.wrap .u8 (Int.tmod v' 256) = ((v.toNat / 256 ^ i % 256:Nat):Int):=by
   rw [hv,tmodN,wrapU8 (by omega) (by omega)]
  have e4:IntKind.wrap .u64 (Int.tdiv v' 256) = ((v.toNat / 256 ^ (i + 1):Nat):Int):=by
   have hd:v.toNat / 256 ^ (i + 1)≤v.toNat:=Nat.div_le_self _ _
   rw [hv,tdivN,Nat.div_div_eq_div_mul,← Nat.pow_succ,Nat.succ_eq_add_one]
   generalize v.toNat / 256 ^ (i + 1) = q at hd ⊢
   rw [wrapU (by omega) (by omega)]
  simp only [e2,e3,e4,List.map_cons,List.map_nil,List.length_cons,List.length_nil]
  refine ⟨by decide,by omega,by omega,by decide,hnorm (i + 1,((v.toNat / 256 ^ (i + 1):Nat):Int),someIV (.bytes l),[u8 ((v.toNat / 256 ^ i % 256:Nat):Int)] ++ l) p22 _ ⟨by simp only; omega,rfl,?_⟩ (by simp only; omega) (by kernel_rfl)⟩
  simp only
  rw [be_front,hl]
  rfl
 ·simp only [decide_eq_false_iff_not] at h1
  have hin:i = n.toNat:=by omega
  rw [← hin,← hl] at hK
  refine hexit _ _ (by simp) ?_
  rw [f22_out]
  refine ⟨by simp; omega,by simp; omega,by simp; omega,by simp; omega,?_⟩
  simpa using hK
theorem uintP_lt (b:List UInt8) (off n:Nat):uintP b off n < 256 ^ n:=by
 unfold uintP okR
 split
 ·rename_i h
  simp only [decide_eq_true_eq] at h
  have:=beN_lt ((b.drop off).take n)
  rw [List.length_take,List.length_drop,Nat.min_eq_left (by omega)] at this
  exact this
 ·exact Nat.pow_pos (by decide)
theorem wrap64m (n:Int):IntKind.wrap .i64 n = (n + 9223372036854775808) % 18446744073709551616 - 9223372036854775808:=by
 have:=IntKind.wrap_i64 n
 rw [show IntKind.wrap .i64 n = IntKind.i64.wrap n from rfl,this]
theorem eight {n:Int} (n1:1≤n) (n8:n≤8):n = 1∨n = 2∨n = 3∨n = 4∨n = 5∨n = 6∨n = 7∨n = 8:=by omega
theorem shl_eq {u s:Nat} (hs:s≤64):shlV .u64 (u:Int) (s:Int) = ((u:Int) * 2 ^ s) % 18446744073709551616:=by
 unfold shlV
 rw [Int.toNat_natCast,Nat.min_eq_left (by have:IntKind.u64.bits = 64:=rfl; omega),wrapUm]
theorem shr_eq {x:Int} {s:Nat} (hs:s≤64):shrV .i64 x (s:Int) = x / 2 ^ s:=by
 unfold shrV
 rw [Int.toNat_natCast,Nat.min_eq_left (by have:IntKind.i64.bits = 64:=rfl; omega),Int.fdiv_eq_ediv_of_nonneg _ (Int.le_of_lt (Int.pow_pos (by decide)))]
theorem sgn_eq {u n:Nat} (hu:u < 256 ^ n) (n1:1≤n) (n8:n≤8):shrV .i64 (IntKind.wrap .i64 (shlV .u64 (u:Int) ((64 - 8 * n:Nat):Int))) ((64 - 8 * n:Nat):Int) = sgnN n u:=by
 rw [shl_eq (by omega),shr_eq (by omega),wrap64m]
 unfold sgnN
 have:n = 1∨n = 2∨n = 3∨n = 4∨n = 5∨n = 6∨n = 7∨n = 8:=by omega
 rcases this with rfl | rfl | rfl | rfl | rfl | rfl | rfl | rfl <;> simp at hu ⊢ <;> split <;> omega
theorem f23_ev (b:List UInt8) (off n:Int) (hb:(b.length:Int)≤big) (h0:0≤off) (h1:off≤big) (n1:1≤n) (n8:n≤8) (K:List AV→Prop) (hK:K [.imm (.int .i64 (sgnN n.toNat (uintP b off.toNat n.toNat))),bo (okR b off.toNat n.toNat)]) :
  evSpec C1 Tryd.f68 [.imm (.bytes b),i64 off,i64 n] K:=by
 rw [f23_in]
 have e1:IntKind.wrap .u64 (IntKind.wrap .i64 ((64:Int) - IntKind.wrap .i64 ((8:Int) * n))) = ((64 - 8 * n.toNat:Nat):Int):=by
  rw [wrap64 (n:=8 * n) (by omega) (by omega),wrap64 (by omega) (by omega),wrapU (by omega) (by omega)]; omega
 rw [e1,sgn_eq (uintP_lt _ _ _) (by omega) (by omega)]
 exact ⟨hb,h0,h1,by omega,n8,by omega,by omega,hK⟩
theorem f20_ev (b:List UInt8) (off n:Int) (hb:(b.length:Int)≤big) (h0:0≤off) (h1:off≤big) (n1:1≤n) (n8:n≤8) (K:List AV→Prop) (hK:K [.imm (.int .i64 (sgnN n.toNat (uintP b off.toNat n.toNat))),bo (okR b off.toNat n.toNat)]) :
  evSpec C1 Tryd.f69 [.imm (.bytes b),i64 off,i64 n] K:=by
 rw [f20_in]
 have hu:=uintP_lt b off.toNat n.toNat
 generalize uintP b off.toNat n.toNat = u at hu hK
 generalize okR b off.toNat n.toNat = r at hK
 refine ⟨hb,h0,h1,by omega,n8,n1,n8,brn_intro (fun h=>⟨n1,n8,n1,n8,?_⟩) (fun h=>?_)⟩
 ·have e:IntKind.wrap .i64 (IntKind.wrap .i64 (IntKind.wrap .i64 (IntKind.wrap .u64 ((u:Int) - 2 ^ (8 * n.toNat - 1))) - IntKind.wrap .i64 (IntKind.wrap .u64 ((2:Int) ^ (8 * n.toNat - 1) - 1))) - 1) = sgnN n.toNat u:=by
   unfold sgnN
   simp only [wrap64m,wrapUm]
   simp only [decide_eq_true_eq] at h
   rcases eight n1 n8 with rfl | rfl | rfl | rfl | rfl | rfl | rfl | rfl <;> simp at hu h ⊢ <;> split <;> omega
  rw [e]
  exact hK
 ·have e:IntKind.wrap .i64 (u:Int) = sgnN n.toNat u:=by
   unfold sgnN
   simp only [wrap64m]
   simp only [decide_eq_false_iff_not] at h
   rcases eight n1 n8 with rfl | rfl | rfl | rfl | rfl | rfl | rfl | rfl <;> simp at hu h ⊢ <;> split <;> omega
  rw [e]
  exact hK
end D6
set_option maxRecDepth 100000
namespace D6
open Go Go.AE Go.Proofs
attribute [local irreducible] loopK evCode evSpec loopB norm
end D6
