/- For every byte slice, header and time size the law BlockDoesNotAlias returns true and its arguments read as before. No further condition. -/
import Derived.Test.YtmmioohcgdnpdaaDoorAe5
set_option linter.all false
set_option maxRecDepth 100000
namespace Z19
open Go Go.AE Go.Proofs D6
attribute [local irreducible] loopK evCode evSpec loopB norm evFunc
theorem e7c_det (d:List UInt8) (hd:d.length≤1000) :
  ∀ K:List AV→Prop,K [bo true]→∀ p st,norm p st = some (k8b 16 d d [] [] [] [] [] [] [] 0)→evCode V7e (.loop (loopB (bodyOf Tryd.f7) 2)) st (loopK V7e (bodyOf Tryd.f7) 2 (finK V7e Tryd.f7 K)):=by
 refine Exists.elim (loop_det (C:=V7e) (c:=loopB (bodyOf Tryd.f7) 2) (fun _:Unit=>k8b 16 d d [] [] [] [] [] [] [] 0) (fun _=>True) (fun _=>0) (fun _:Unit=>True) (fun _=>[bo true])
  (fun K=>loopK V7e (bodyOf Tryd.f7) 2 (finK V7e Tryd.f7 K)) rfl (fun s hs=>?_) () trivial) (fun v hv=>hv.2)
 refine .inr ⟨.exit 4,_,by simp,fun K' hK'=>by
  show evCode V7e (loopB (bodyOf Tryd.f7) 2) (k8b 16 d d [] [] [] [] [] [] [] 0) K'
  rw [e7_lc]
  exact brn_F rfl hK',(),trivial,fun K hK=>?_⟩
 refine Eq.mp (by kernel_rfl) (Eq.mpr (e7_oc d d [] [] [] [] [] [] [] 0 K) ⟨small_big hd,small_big hd,?_⟩)
 rw [decide_eq_true rfl]
 exact hK
theorem e7b_det (d:List UInt8) (hd:d.length≤1000) :
  ∀ K:List AV→Prop,K [bo true]→∀ p st,norm p st = some (k8b 15 d d [] [] [] [] [] [] [] 0)→evCode V7e (.loop (loopB (bodyOf Tryd.f7) 1)) st (loopK V7e (bodyOf Tryd.f7) 1 (finK V7e Tryd.f7 K)):=by
 refine Exists.elim (loop_det (C:=V7e) (c:=loopB (bodyOf Tryd.f7) 1) (fun _:Unit=>k8b 15 d d [] [] [] [] [] [] [] 0) (fun _=>True) (fun _=>0) (fun _:Unit=>True) (fun _=>[bo true])
  (fun K=>loopK V7e (bodyOf Tryd.f7) 1 (finK V7e Tryd.f7 K)) rfl (fun s hs=>?_) () trivial) (fun v hv=>hv.2)
 refine .inr ⟨.exit 2,_,by simp,fun K' hK'=>by
  show evCode V7e (loopB (bodyOf Tryd.f7) 1) (k8b 15 d d [] [] [] [] [] [] [] 0) K'
  rw [e7_lb]
  exact brn_F rfl hK',(),trivial,fun K hK=>?_⟩
 have key:=e7c_det d hd K hK
 refine Eq.mp (by kernel_rfl) (Eq.mpr (e7_ob d d [] [] [] [] [] [] [] 0 K) ?_)
 unfold LoopI
 exact key ⟨[],msk [0,8,9,16] 0 104,[0,1]⟩ _ (by kernel_rfl)
theorem e7a_det (d:List UInt8) (v iu is l t ty c s:Int) (hd:d.length≤1000) (hh:okH ⟨v,iu,is,l,t,ty,c⟩) (hs:sz48 s) (cu:Cu) (hq:decU ⟨d,0,0,0⟩ ⟨v,iu,is,l,t,ty,c⟩ s 0 = (zB,cu)) (E0:List UInt8) (hE:E0.length≤1000) :
  ∀ K:List AV→Prop,K [bo true]→∀ p st,norm p st = some (k8a d v iu is l t ty c s d E0 [] [] [] [] [] [] [] 0)→evCode V7e (.loop (loopB (bodyOf Tryd.f7) 0)) st (loopK V7e (bodyOf Tryd.f7) 0 (finK V7e Tryd.f7 K)):=by
 have hu:okU ⟨d,0,0,0⟩:=⟨Int.le_refl 0,Int.natCast_nonneg _,by show (d.length:Int)≤_; omega⟩
 refine Exists.elim (loop_det (C:=V7e) (c:=loopB (bodyOf Tryd.f7) 0) (fun q:Nat×List UInt8=>k8a d v iu is l t ty c s d q.2 [] [] [] [] [] [] [] (q.1:Int)) (fun q=>q.1≤q.2.length∧q.2.length≤1000) (fun q=>q.2.length - q.1) (fun _:Unit=>True) (fun _=>[bo true])
  (fun K=>loopK V7e (bodyOf Tryd.f7) 0 (finK V7e Tryd.f7 K)) rfl (fun q hq=>?_) (0,E0) ⟨Nat.zero_le _,hE⟩) (fun v hv=>hv.2)
 obtain ⟨i,E⟩:=q
 obtain ⟨i1,i2⟩:=hq
 have i1:i≤E.length:=i1
 have i2:E.length≤1000:=i2
 have hw:=w7 (show i≤10000000000 by omega)
 by_cases h:i < E.length
 ·have hz:(i:Int) < (E.length:Int):=by omega
  have i0:(0:Int)≤(i:Int):=by omega
  refine .inl ⟨(i + 1,E.set (Int.toNat (i:Int)) (u8 (IntKind.wrap .u8 ((List.getD E (Int.toNat (i:Int)) 0).toNat + 1)))),q8a,_,⟨by show i + 1≤(E.set _ _).length; rw [List.length_set]; omega,by show (E.set _ _).length≤1000; rw [List.length_set]; exact i2⟩,by show (E.set _ _).length - (i + 1) < E.length - i; rw [List.length_set]; omega,?_,fun K' hK'=>by
   show evCode V7e (loopB (bodyOf Tryd.f7) 0) (k8a d v iu is l t ty c s d E [] [] [] [] [] [] [] (i:Int)) K'
   rw [e7_lp,hw]
   exact brn_T (decide_eq_true hz) ⟨i0,hz,i0,hz,hK'⟩⟩
  kernel_rfl
 ·have hz:¬ (i:Int) < (E.length:Int):=by omega
  refine .inr ⟨.exit 0,_,by simp,fun K' hK'=>by
   show evCode V7e (loopB (bodyOf Tryd.f7) 0) (k8a d v iu is l t ty c s d E [] [] [] [] [] [] [] (i:Int)) K'
   rw [e7_lp]
   exact brn_F (decide_eq_false hz) hK',(),trivial,fun K hK=>?_⟩
  have key:=e7b_det d hd K hK
  refine Eq.mp (by kernel_rfl) (Eq.mpr (e7_out d v iu is l t ty c s d E [] [] [] [] [] [] [] (i:Int) K) ?_)
  intro Q1 E1 R1
  have e1:E1:=rfl
  have hq1:Q1 = (zB,cu):=hq
  have nb:=okB_zero
  have r1:R1:=by show _∧_; repeat' (first | assumption | apply And.intro)
  clear_value R1 E1 Q1
  subst hq1
  have nb2:okB (Bk.T (Prod.fst (zB,cu))) (Bk.I (Prod.fst (zB,cu))) (List.map cellsT (Bk.X (Prod.fst (zB,cu)))) (Bk.C (Prod.fst (zB,cu))) (List.map cellsL (Bk.L (Prod.fst (zB,cu)))) (Bk.S (Prod.fst (zB,cu))) (Bk.U (Prod.fst (zB,cu))):=nb
  repeat' (first | assumption | apply And.intro)
  refine brn_F (by simp [zB,sameK]) ?_
  unfold LoopI
  exact key ⟨[],msk [0,8,9,15] 0 104,[1,2]⟩ _ (by kernel_rfl)
theorem okE_zero:okE [] [] [] [] [] [] []:=⟨okB_zero.1,okB_zero.2.1,by decide,by decide,by decide,by decide,by decide,by decide,by decide⟩
theorem e7_ev (d:List UInt8) (v iu is l t ty c:Int) (w:Bool) (hh:okH ⟨v,iu,is,l,t,ty,c⟩) (hd:d.length≤1000) (n:Nat) (hn:n = 4∨n = 8) (hsw:(if w = true then (8:Int) else 4) = (n:Int)) (cu:Cu) (hq:decU ⟨d,0,0,0⟩ ⟨v,iu,is,l,t,ty,c⟩ n 0 = (zB,cu)) (K:List AV→Prop) (hK:K [bo true]):evSpec V7e Tryd.f7 [by' d,hdAV v iu is l t ty c,bo w] K:=by
 refine Eq.mpr (e7_in d v iu is l t ty c w K) ?_
 rw [hsw]
 have hu0:okU ⟨d,0,0,0⟩:=⟨Int.le_refl 0,Int.natCast_nonneg _,by show (d.length:Int)≤_; omega⟩
 have hu:okU ⟨List.map u8 [] ++ d,0,0,0⟩:=hu0
 have hs:sz48 (n:Int):=by rcases hn with rfl | rfl; exact .inl rfl; exact .inr rfl
 intro Q1 Q2 E1 R1
 have e1:E1:=rfl
 have hq1:Q1 = (zB,cu):=hq
 have r1:R1:=by show _∧_; repeat' (first | assumption | apply And.intro)
 have hQ2:Q2 = []:=by
  show encB (Bk.T (Prod.fst Q1)) _ _ _ _ _ _ _ = []
  rw [hq1]
  rfl
 clear_value R1 E1 Q2 Q1
 subst hq1 hQ2
 have m1:(0 + d.length) * 1≤140737488355328:=by omega
 have m2:0 + d.length≤140737488355328:=by omega
 have m1':(List.length (List.map u8 []) + List.length d) * 1≤140737488355328:=m1
 have m2':List.length (List.map u8 []) + List.length d≤140737488355328:=m2
 have hE0:okE (Bk.T (Prod.fst (zB,cu))) (Bk.I (Prod.fst (zB,cu))) (List.map cellsT (Bk.X (Prod.fst (zB,cu)))) (Bk.C (Prod.fst (zB,cu))) (List.map cellsL (Bk.L (Prod.fst (zB,cu)))) (Bk.S (Prod.fst (zB,cu))) (Bk.U (Prod.fst (zB,cu))):=okE_zero
 have key:=e7a_det d v iu is l t ty c n hd hh hs cu hq [] (by decide) K hK
 refine brn_intro (fun _=>hK) (fun _=>?_)
 refine ⟨m1',m2',?_⟩
 repeat' (first | assumption | apply And.intro)
 unfold LoopI
 exact key q8i _ (by kernel_rfl)
end Z19
set_option maxRecDepth 100000
namespace Z19
open Go Go.AE Go.Proofs D6
attribute [local irreducible] loopK evCode evSpec loopB norm evFunc
theorem ok7 (d:List UInt8) (v iu is l t ty c:Int) (w:Bool) (hh:okH ⟨v,iu,is,l,t,ty,c⟩):SpecOK Tryd.prog G16 7 [by' d,hdAV v iu is l t ty c,bo w] [] [bo true]:=by
 obtain ⟨n,hn,hs⟩:=sz_w w
 by_cases hd:d.length≤1000
 ·rcases dec_three (d:=d) (h:=⟨v,iu,is,l,t,ty,c⟩) (n:=n) (at':=0) with ⟨hq,_⟩ | hq | ⟨hle,hok,_⟩
  ·exact spec_ok (C:=V7e) okF5 noCall_ok Tryd.func7 (by kernel_rfl) (by kernel_rfl) (fun _=>e7_ev d v iu is l t ty c w hh hd n hn hs _ hq _ rfl)
  ·exact spec_ok (C:=V7e) okF5 noCall_ok Tryd.func7 (by kernel_rfl) (by kernel_rfl) (fun _=>e7_ev d v iu is l t ty c w hh hd n hn hs _ hq _ rfl)
  ·exact spec_ok (C:=V7s) okF8s okC7 Tryd.func7 (by kernel_rfl) (by kernel_rfl) (fun _=>s7_ev d v iu is l t ty c w hh hd n hn hs hle hok _ rfl)
 ·refine spec_ok (C:=V7e) okF5 noCall_ok Tryd.func7 (by kernel_rfl) (by kernel_rfl) (fun _=>?_)
  refine Eq.mpr (e7_in d v iu is l t ty c w _) ?_
  intro Q1 Q2 E1 R1
  refine brn_T ?_ rfl
  rw [decide_eq_true (show (d.length:Int) > 1000 by omega)]
  rfl
end Z19
namespace Go.Proofs.YtmmioohcgdnpdaaDoor
open Go Go.AE Go.Proofs Z19 D6
open Go.ChangeShapes Go.WideShapes Go.ChangeAt Go.RowKit Go.ChangeMaps
attribute [local irreducible] loopK evCode evSpec loopB norm evFunc
theorem Tryd.own:ownKnob Tryd.prog.godebug = none:=by kernel_rfl
set_option maxRecDepth 100000 in
theorem f7_lifted (os:Os) (started:os.Started) (H:Type) (enc:TypeId×Value→H) :
  ReturnsInHanded {} Tryd.checked os 7 .any (fun w args=>(Rows.blockDoesNotAliasSpec.pre enc Tryd.prog Tryd.f7 [] false w args∧laidMetH Tryd.prog Rows.blockMatchesReferenceRow.laid w)∧sizedMet enc Tryd.prog Tryd.f7 (OpenSpec.ofChange Rows.blockDoesNotAliasSpec) false w args)
   (Rows.blockDoesNotAliasSpec.post enc Tryd.prog Tryd.f7 false true false false):=by
 refine returnsInHanded_of_change_and (C:=Tryd.checked) (X:=fun w _=>laidMetH Tryd.prog Rows.blockMatchesReferenceRow.laid w) (fun _ _ _ hh h=>h.of_heap hh) Tryd.own started (by kernel_rfl) Tryd.func7
  (ChangeSpec.witness_at (enc:=enc) (C:=Tryd.checked) (os:=os) (X:=fun w _=>laidMetH Tryd.prog Rows.blockMatchesReferenceRow.laid w) false (laidWorld os) #[.slice none 0 0,.agg #[.int .i64 0,.int .u32 0,.int .u32 0,.int .u32 0,.int .u32 0,.int .u32 0,.int .u32 0],.bool false] 8 rfl (by kernel_rfl) (by kernel_rfl) (by kernel_rfl) (by kernel_rfl) (by kernel_rfl) (door_met os _)) ?_
 intro W base args ds gs before hval0 hW _ hsz hL _
 obtain ⟨l⟩:=args
 have hval:∀ (j:Nat) t v,Tryd.f7.params[j]? = some t→l[j]? = some v→Value.okWide Tryd.prog W .any base t v:=fun j t v h1 h2=>hval0 j t v h1 (by simpa using h2)
 have hW':=hW
 obtain ⟨p,q,hB,hV,rfl,hfz,hnd⟩:=hW
 obtain ⟨rfl,rfl⟩:=trodVars_none hV
 have hA0:DataW.TrodAll enc Tryd.prog W 0 (fun _=>true) true [22,28,4] l ds p:=by have h:=hB; rw [Tryd.params7] at h; exact h
 rw [Tryd.params7] at hval
 clear hB hval0
 obtain ⟨v0,l,d0,ds,p0,p,rfl,rfl,h0,hA1,rfl⟩:=all_cons hA0
 obtain ⟨v1,l,d1,ds,p1,p,rfl,rfl,h1,hA2,rfl⟩:=all_cons hA1
 obtain ⟨v2,l,d2,ds,p2,p,rfl,rfl,h2,hA3,rfl⟩:=all_cons hA2
 obtain ⟨rfl,rfl,rfl⟩:=all_nil hA3
 obtain ⟨l0,m0,r0⟩:=open_byteslice Tryd.underlying22 (by kernel_rfl:flatK Tryd.prog false 40 5 = some [.int .u8]) (by kernel_rfl) (by decide +kernel) (hval 0 22 v0 rfl rfl) h0 (fun el rs h=>sized_slice hsz (j:=0) (by rw [Tryd.params7]; rfl) (by rw [h]; rfl) Tryd.underlying22)
 obtain ⟨i1,l1,rfl,k1⟩:=open_flat Tryd.underlying28 (by kernel_rfl:flatK Tryd.prog false 40 28 = some [(.int .i64),(.int .u32),(.int .u32),(.int .u32),(.int .u32),(.int .u32),(.int .u32)]) (hval 1 28 v1 rfl rfl) h1
 have K1:=k1
 obtain ⟨n1a,i1,l1,rfl,rfl,m1a,k1_1⟩:=k1.cons_int
 obtain ⟨n1b,i1,l1,rfl,rfl,m1b,k1_2⟩:=k1_1.cons_int
 obtain ⟨n1c,i1,l1,rfl,rfl,m1c,k1_3⟩:=k1_2.cons_int
 obtain ⟨n1d,i1,l1,rfl,rfl,m1d,k1_4⟩:=k1_3.cons_int
 obtain ⟨n1e,i1,l1,rfl,rfl,m1e,k1_5⟩:=k1_4.cons_int
 obtain ⟨n1f,i1,l1,rfl,rfl,m1f,k1_6⟩:=k1_5.cons_int
 obtain ⟨n1g,i1,l1,rfl,rfl,m1g,k1_7⟩:=k1_6.cons_int
 obtain ⟨rfl,rfl⟩:=k1_7.end
 obtain ⟨a2,rfl,rfl,rfl⟩:=open_bool Tryd.underlying4 (hval 2 4 v2 rfl rfl) h2
 have hspec:SpecOK Tryd.prog G16 7 [.imm (.bytes l0),.agg [.imm (.int .i64 n1a),.imm (.int .u32 n1b),.imm (.int .u32 n1c),.imm (.int .u32 n1d),.imm (.int .u32 n1e),.imm (.int .u32 n1f),.imm (.int .u32 n1g)],.imm (.bool a2)] [] [.imm (.bool true)]:=ok7 l0 n1a n1b n1c n1d n1e n1f n1g a2 ⟨u32_of m1b,u32_of m1c,u32_of m1d,u32_of m1e,u32_of m1f,u32_of m1g⟩
 refine (bool_calls hspec (fun p h=>by cases h) W _ rfl (fun j c hc=>?_) (gok_of_laid hL)).mono fun e W' ⟨he,hw⟩=>?_
 ·match j with
  | 0=>simp only [List.getElem?_cons_zero,Option.some.injEq] at hc; subst hc; exact rep_at r0 rfl
  | 1=>simp only [List.getElem?_cons_succ,List.getElem?_cons_zero,Option.some.injEq] at hc; subst hc; exact K1.arep
  | 2=>simp only [List.getElem?_cons_succ,List.getElem?_cons_zero,Option.some.injEq] at hc; subst hc; exact .imm .bool
  | j + 3=>simp at hc
 subst he
 exact ⟨_,rfl,row_post hW' rfl (by kernel_rfl) (by kernel_rfl) rfl rfl Tryd.underlying4 hw⟩
theorem f7_row:Rows.BlockDoesNotAliasSaid :=
 OpenClaim.holds_of_wide 7 Tryd.f7 rfl rfl rfl rfl rfl rfl rfl ⟨rfl,rfl,rfl,rfl,rfl⟩ rfl rfl rfl rfl rfl (by kernel_rfl) Tryd.func7 (by kernel_rfl)
  (of_decide_eq_true (by kernel_rfl)) (by unfold Func.isWrapper; first | (rw [if_pos (by decide +kernel)]; kernel_rfl) | (rw [if_neg (by decide +kernel)]; exact ⟨rfl,rfl⟩))
  (fun os started H enc _=>f7_lifted os started H enc)
theorem f7_holds:Rows.BlockDoesNotAliasCardSaid :=
 Claim7.holds_tied_plain_at .later [] [.data,.handle] true Rows.blockDoesNotAliasCard.stood.harness true
  f7_row (fun _ h=>by cases h) (by kernel_rfl) (fun _ h=>by cases h) blockDoesNotAlias_row_tie rfl ⟨rfl,rfl⟩ (by kernel_rfl) rfl
  (fun f fn hf hfn=>by
   obtain rfl:f = 7:=Option.some.inj ((show Tryd.prog.funcNamed "zoneinfo/zoneinfolaw19.BlockDoesNotAlias" = some 7 by kernel_rfl).symm.trans hf) |>.symm
   obtain rfl:fn = Tryd.f7:=(Option.some.inj (Tryd.func7.symm.trans hfn)).symm
   exact ⟨by kernel_rfl,fun j t ht=>by
    rw [Tryd.params7] at ht
    have hm:t ∈ [22,28,4]:=by simpa using Array.mem_of_getElem? ht
    have hall:([22,28,4].all fun u=>!Tryd.prog.wantsStandIn u) = true:=by kernel_rfl
    exact (show Tryd.prog.wantsStandIn t = false by simpa using List.all_eq_true.1 hall t hm)⟩)
  (by kernel_rfl)
end Go.Proofs.YtmmioohcgdnpdaaDoor
